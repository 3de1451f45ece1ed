import Derived.Test.YtejmjeanhlkenaaCP0
import Derived.Test.YtejmjeanhlkenaaCP1
-- written by wip/myprint.py (the kit's print over hand-proved contracts)
namespace Go.Proofs.Ytejmjeanhlkenaa.PB
open Go.RowKit Go.Proofs.YtejmjeanhlkenaaW.PrintWords Go.Proofs.YtejmjeanhlkenaaW.PrintLast Go.Proofs.YtejmjeanhlkenaaW.PrintMore
attribute [local go_sem] max2_int min2_int max_two min_two max_three min_three max_four min_four   -- for this text's walks alone
set_option linter.unusedVariables false
set_option linter.unusedSimpArgs false

/-! ### belts_Valid: function 28 -/
mutual
def belts_Valid.j0 : Nat → List (S31) → Bool → Int → List Int → List Int → List Bool → List Bool → Option (Bool)
 | 0, _, _, _, _, _, _, _ => none
 | k + 1, x0, x47, x108000, x108001, x108002, x108003, x108004 => if x47 = true then (some false) else (belts_Valid.l0 k x0 x108001 (x108001.length : Int) 0 x108000 x108001 x108002 x108003 x108004)
def belts_Valid.l0 : Nat → List (S31) → List Int → Int → Int → Int → List Int → List Int → List Bool → List Bool → Option (Bool)
 | 0, _, _, _, _, _, _, _, _, _ => none
 | k + 1, x0, x49, x50, x51, x108000, x108001, x108002, x108003, x108004 => if x51 < x50 then (if 0 ≤ x51 then (if x51 < (x49.length : Int) then (if x51 < (x0.length : Int) then ((lists_In.f (rd x49 x51) 0 2).bind fun t112 => (if t112 = true then (if x51 < (x108002.length : Int) then ((lists_In.f (rd x108002 x51) 0 x108000).bind fun t114 => (belts_Valid.j2 k x0 x51 (rd x49 x51) ((rd_T31 x0 x51).f0) x49 x50 x51 (!t114) x108000 x108001 x108002 x108003 x108004)) else (none)) else (belts_Valid.j2 k x0 x51 (rd x49 x51) ((rd_T31 x0 x51).f0) x49 x50 x51 true x108000 x108001 x108002 x108003 x108004))) else (none)) else (none)) else (none)) else (some true)
def belts_Valid.j2 : Nat → List (S31) → Int → Int → Int → List Int → Int → Int → Bool → Int → List Int → List Int → List Bool → List Bool → Option (Bool)
 | 0, _, _, _, _, _, _, _, _, _, _, _, _, _ => none
 | k + 1, x0, x6, x7, x8, x49, x50, x51, x61, x108000, x108001, x108002, x108003, x108004 => if x61 = true then (some false) else (if x7 = 0 then (belts_Valid.l0 k x0 x49 x50 (wrap64 (x51 + 1)) x108000 x108001 x108002 x108003 x108004) else (if 0 ≤ x6 then (if x6 < (x108003.length : Int) then (if rdOf false x108003 x6 = true then (belts_Valid.j3 k x0 x49 x50 x51 true x108000 x108001 x108002 x108003 x108004) else (if x6 < (x108004.length : Int) then (if rdOf false x108004 x6 = true then (belts_Valid.j3 k x0 x49 x50 x51 true x108000 x108001 x108002 x108003 x108004) else (if x8 ≥ 0 then (if 0 ≤ x8 then (if x8 < (x108001.length : Int) then (belts_Valid.j3 k x0 x49 x50 x51 ((rd x108001 x8) != 2) x108000 x108001 x108002 x108003 x108004) else (none)) else (none)) else (belts_Valid.j3 k x0 x49 x50 x51 false x108000 x108001 x108002 x108003 x108004))) else (none))) else (none)) else (none)))
def belts_Valid.j3 : Nat → List (S31) → List Int → Int → Int → Bool → Int → List Int → List Int → List Bool → List Bool → Option (Bool)
 | 0, _, _, _, _, _, _, _, _, _, _ => none
 | k + 1, x0, x49, x50, x51, x79, x108000, x108001, x108002, x108003, x108004 => if x79 = true then (some false) else (belts_Valid.l0 k x0 x49 x50 (wrap64 (x51 + 1)) x108000 x108001 x108002 x108003 x108004)
end
def belts_Valid.f (k : Nat) (l0 : List (S31)) (a1_0 : Int) (l1_1 : List Int) (l1_2 : List Int) (l1_3 : List Bool) (l1_4 : List Bool) : Option (Bool) := (belts_sound.f k l0).bind fun t108 => (if t108 = true then (if (l1_1.length : Int) = (l0.length : Int) then (if (l1_2.length : Int) = (l0.length : Int) then (if (l1_3.length : Int) = (l0.length : Int) then (if (l1_4.length : Int) = (l0.length : Int) then ((lists_In.f a1_0 0 2147483648).bind fun t109 => (belts_Valid.j0 k l0 (!t109) a1_0 l1_1 l1_2 l1_3 l1_4)) else (belts_Valid.j0 k l0 true a1_0 l1_1 l1_2 l1_3 l1_4)) else (belts_Valid.j0 k l0 true a1_0 l1_1 l1_2 l1_3 l1_4)) else (belts_Valid.j0 k l0 true a1_0 l1_1 l1_2 l1_3 l1_4)) else (belts_Valid.j0 k l0 true a1_0 l1_1 l1_2 l1_3 l1_4)) else (belts_Valid.j0 k l0 true a1_0 l1_1 l1_2 l1_3 l1_4))
theorem belts_Valid.mono_l : ∀ k, (∀ y0 y1 y2 y3 y4 y5 y6, LeO (belts_Valid.j0 k y0 y1 y2 y3 y4 y5 y6) (belts_Valid.j0 (k + 1) y0 y1 y2 y3 y4 y5 y6)) ∧ (∀ y0 y1 y2 y3 y4 y5 y6 y7 y8, LeO (belts_Valid.l0 k y0 y1 y2 y3 y4 y5 y6 y7 y8) (belts_Valid.l0 (k + 1) y0 y1 y2 y3 y4 y5 y6 y7 y8)) ∧ (∀ y0 y1 y2 y3 y4 y5 y6 y7 y8 y9 y10 y11 y12, LeO (belts_Valid.j2 k y0 y1 y2 y3 y4 y5 y6 y7 y8 y9 y10 y11 y12) (belts_Valid.j2 (k + 1) y0 y1 y2 y3 y4 y5 y6 y7 y8 y9 y10 y11 y12)) ∧ (∀ y0 y1 y2 y3 y4 y5 y6 y7 y8 y9, LeO (belts_Valid.j3 k y0 y1 y2 y3 y4 y5 y6 y7 y8 y9) (belts_Valid.j3 (k + 1) y0 y1 y2 y3 y4 y5 y6 y7 y8 y9))
 | 0 => ⟨fun _ _ _ _ _ _ _ r h => by simp [belts_Valid.j0] at h, fun _ _ _ _ _ _ _ _ _ r h => by simp [belts_Valid.l0] at h, fun _ _ _ _ _ _ _ _ _ _ _ _ _ r h => by simp [belts_Valid.j2] at h, fun _ _ _ _ _ _ _ _ _ _ r h => by simp [belts_Valid.j3] at h⟩
 | k + 1 => by
  obtain ⟨ih0, ih1, ih2, ih3⟩ := belts_Valid.mono_l k
  refine ⟨?_, ?_, ?_, ?_⟩
  ·intro y0 y1 y2 y3 y4 y5 y6
   unfold belts_Valid.j0
   repeat' first
   | (with_reducible exact ih0 _ _ _ _ _ _ _)
   | (with_reducible exact ih1 _ _ _ _ _ _ _ _ _)
   | (with_reducible exact ih2 _ _ _ _ _ _ _ _ _ _ _ _ _)
   | (with_reducible exact ih3 _ _ _ _ _ _ _ _ _ _)
   | (with_reducible exact belts_sound.mono _ _)
   | (with_reducible exact LeO.refl _)
   | (with_reducible exact LeO.none _)
   | (with_reducible refine LeO.ite ?_ ?_)
   | (with_reducible refine LeO.bind ?_ (fun _ => ?_))
   | exact ih0 _ _ _ _ _ _ _
   | exact ih1 _ _ _ _ _ _ _ _ _
   | exact ih2 _ _ _ _ _ _ _ _ _ _ _ _ _
   | exact ih3 _ _ _ _ _ _ _ _ _ _
   | exact belts_sound.mono _ _
   | exact LeO.none _
   | refine LeO.ite ?_ ?_
   | refine LeO.bind ?_ (fun _ => ?_)
  ·intro y0 y1 y2 y3 y4 y5 y6 y7 y8
   unfold belts_Valid.l0
   repeat' first
   | (with_reducible exact ih0 _ _ _ _ _ _ _)
   | (with_reducible exact ih1 _ _ _ _ _ _ _ _ _)
   | (with_reducible exact ih2 _ _ _ _ _ _ _ _ _ _ _ _ _)
   | (with_reducible exact ih3 _ _ _ _ _ _ _ _ _ _)
   | (with_reducible exact belts_sound.mono _ _)
   | (with_reducible exact LeO.refl _)
   | (with_reducible exact LeO.none _)
   | (with_reducible refine LeO.ite ?_ ?_)
   | (with_reducible refine LeO.bind ?_ (fun _ => ?_))
   | exact ih0 _ _ _ _ _ _ _
   | exact ih1 _ _ _ _ _ _ _ _ _
   | exact ih2 _ _ _ _ _ _ _ _ _ _ _ _ _
   | exact ih3 _ _ _ _ _ _ _ _ _ _
   | exact belts_sound.mono _ _
   | exact LeO.none _
   | refine LeO.ite ?_ ?_
   | refine LeO.bind ?_ (fun _ => ?_)
  ·intro y0 y1 y2 y3 y4 y5 y6 y7 y8 y9 y10 y11 y12
   unfold belts_Valid.j2
   repeat' first
   | (with_reducible exact ih0 _ _ _ _ _ _ _)
   | (with_reducible exact ih1 _ _ _ _ _ _ _ _ _)
   | (with_reducible exact ih2 _ _ _ _ _ _ _ _ _ _ _ _ _)
   | (with_reducible exact ih3 _ _ _ _ _ _ _ _ _ _)
   | (with_reducible exact belts_sound.mono _ _)
   | (with_reducible exact LeO.refl _)
   | (with_reducible exact LeO.none _)
   | (with_reducible refine LeO.ite ?_ ?_)
   | (with_reducible refine LeO.bind ?_ (fun _ => ?_))
   | exact ih0 _ _ _ _ _ _ _
   | exact ih1 _ _ _ _ _ _ _ _ _
   | exact ih2 _ _ _ _ _ _ _ _ _ _ _ _ _
   | exact ih3 _ _ _ _ _ _ _ _ _ _
   | exact belts_sound.mono _ _
   | exact LeO.none _
   | refine LeO.ite ?_ ?_
   | refine LeO.bind ?_ (fun _ => ?_)
  ·intro y0 y1 y2 y3 y4 y5 y6 y7 y8 y9
   unfold belts_Valid.j3
   repeat' first
   | (with_reducible exact ih0 _ _ _ _ _ _ _)
   | (with_reducible exact ih1 _ _ _ _ _ _ _ _ _)
   | (with_reducible exact ih2 _ _ _ _ _ _ _ _ _ _ _ _ _)
   | (with_reducible exact ih3 _ _ _ _ _ _ _ _ _ _)
   | (with_reducible exact belts_sound.mono _ _)
   | (with_reducible exact LeO.refl _)
   | (with_reducible exact LeO.none _)
   | (with_reducible refine LeO.ite ?_ ?_)
   | (with_reducible refine LeO.bind ?_ (fun _ => ?_))
   | exact ih0 _ _ _ _ _ _ _
   | exact ih1 _ _ _ _ _ _ _ _ _
   | exact ih2 _ _ _ _ _ _ _ _ _ _ _ _ _
   | exact ih3 _ _ _ _ _ _ _ _ _ _
   | exact belts_sound.mono _ _
   | exact LeO.none _
   | refine LeO.ite ?_ ?_
   | refine LeO.bind ?_ (fun _ => ?_)
theorem belts_Valid.mono : ∀ a0 a1 a2 a3 a4 a5 k, LeO (belts_Valid.f k a0 a1 a2 a3 a4 a5) (belts_Valid.f (k + 1) a0 a1 a2 a3 a4 a5) := by
 intro a0 a1 a2 a3 a4 a5 k
 obtain ⟨ih0, ih1, ih2, ih3⟩ := belts_Valid.mono_l k
 unfold belts_Valid.f
 repeat' first
   | (with_reducible exact ih0 _ _ _ _ _ _ _)
   | (with_reducible exact ih1 _ _ _ _ _ _ _ _ _)
   | (with_reducible exact ih2 _ _ _ _ _ _ _ _ _ _ _ _ _)
   | (with_reducible exact ih3 _ _ _ _ _ _ _ _ _ _)
   | (with_reducible exact belts_sound.mono _ _)
   | (with_reducible exact LeO.refl _)
   | (with_reducible exact LeO.none _)
   | (with_reducible refine LeO.ite ?_ ?_)
   | (with_reducible refine LeO.bind ?_ (fun _ => ?_))
   | exact ih0 _ _ _ _ _ _ _
   | exact ih1 _ _ _ _ _ _ _ _ _
   | exact ih2 _ _ _ _ _ _ _ _ _ _ _ _ _
   | exact ih3 _ _ _ _ _ _ _ _ _ _
   | exact belts_sound.mono _ _
   | exact LeO.none _
   | refine LeO.ite ?_ ?_
   | refine LeO.bind ?_ (fun _ => ?_)
set_option maxHeartbeats 8000000 in
set_option maxRecDepth 100000 in
theorem belts_Valid.calls (k : Nat) (A0 : Option Addr) (c0 : Nat) (l0 : List (S31)) (a1_0 : Int) (A1_1 : Option Addr) (c1_1 : Nat) (l1_1 : List Int) (A1_2 : Option Addr) (c1_2 : Nat) (l1_2 : List Int) (A1_3 : Option Addr) (c1_3 : Nat) (l1_3 : List Bool) (A1_4 : Option Addr) (c1_4 : Nat) (l1_4 : List Bool) (r : Bool) (w : World) (hr0 : Kd.C k31 w A0 l0.length l0) (hc0 : l0.length ≤ c0) (hr1_1 : Kd.C (Kd.int .i64) w A1_1 l1_1.length l1_1) (hc1_1 : l1_1.length ≤ c1_1) (hr1_2 : Kd.C (Kd.int .i64) w A1_2 l1_2.length l1_2) (hc1_2 : l1_2.length ≤ c1_2) (hr1_3 : Kd.C Kd.bool w A1_3 l1_3.length l1_3) (hc1_3 : l1_3.length ≤ c1_3) (hr1_4 : Kd.C Kd.bool w A1_4 l1_4.length l1_4) (hc1_4 : l1_4.length ≤ c1_4) (h : belts_Valid.f k l0 a1_0 l1_1 l1_2 l1_3 l1_4 = some r) :
  Calls Try.prog 28 #[.slice A0 l0.length c0, .agg #[.int .i64 a1_0, .slice A1_1 l1_1.length c1_1, .slice A1_2 l1_2.length c1_2, .slice A1_3 l1_3.length c1_3, .slice A1_4 l1_4.length c1_4]] w fun e w' => e = .returned (.bool r) ∧ Below w.heap.size w w' := by
 have hu34 := Try.underlying34
 have HR0 := Aside0.mk hr0
 have HC0 := Aside0.mk hc0
 clear hr0 hc0
 have HR1_1 := Aside0.mk hr1_1
 have HC1_1 := Aside0.mk hc1_1
 clear hr1_1 hc1_1
 have HR1_2 := Aside0.mk hr1_2
 have HC1_2 := Aside0.mk hc1_2
 clear hr1_2 hc1_2
 have HR1_3 := Aside0.mk hr1_3
 have HC1_3 := Aside0.mk hc1_3
 clear hr1_3 hc1_3
 have HR1_4 := Aside0.mk hr1_4
 have HC1_4 := Aside0.mk hc1_4
 clear hr1_4 hc1_4
 have HB := Aside0.mk (Below.refl w.heap.size w)
 have H : ((belts_sound.f k l0).bind fun t108 => (if t108 = true then (if (l1_1.length : Int) = (l0.length : Int) then (if (l1_2.length : Int) = (l0.length : Int) then (if (l1_3.length : Int) = (l0.length : Int) then (if (l1_4.length : Int) = (l0.length : Int) then ((lists_In.f a1_0 0 2147483648).bind fun t109 => (belts_Valid.j0 k l0 (!t109) a1_0 l1_1 l1_2 l1_3 l1_4)) else (belts_Valid.j0 k l0 true a1_0 l1_1 l1_2 l1_3 l1_4)) else (belts_Valid.j0 k l0 true a1_0 l1_1 l1_2 l1_3 l1_4)) else (belts_Valid.j0 k l0 true a1_0 l1_1 l1_2 l1_3 l1_4)) else (belts_Valid.j0 k l0 true a1_0 l1_1 l1_2 l1_3 l1_4)) else (belts_Valid.j0 k l0 true a1_0 l1_1 l1_2 l1_3 l1_4))) = some r := h
 clear h
 have HC3 := Aside0.mk H
 clear H
 go_enter Try.func28, Try.ntmps28
 go_upto_region 2 with (first | ((with_reducible refine gate_dst (N := 3) rfl ?_); (try (refine gate_guard (by rfl) ?_; dsimp only)); refine box_event ?hg (N := 3) ?hd (cs := #[.int .i64 a1_0, .slice A1_1 l1_1.length c1_1, .slice A1_2 l1_2.length c1_2, .slice A1_3 l1_3.length c1_3, .slice A1_4 l1_4.length c1_4]) (t := 34) ?hr ?_; (case hd => rfl); (case hg => rfl); (case hr => first | (go_simp; done) | (go_simp; rfl)); intro gb107 hg w4 hbox hb; have n0_ := Aside0.mk (below_step (by repeat (first | (with_reducible first | exact HB.out | apply below_alloc | apply pw_below_drewN | apply below_drew1) | exact HB.out)) hb); have n1_ := Aside0.mk (hbox); have n2_ := Aside0.mk ((by rw [hg]; exact (below_size (by repeat (first | (with_reducible first | exact HB.out | apply below_alloc | apply pw_below_drewN | apply below_drew1) | exact HB.out))) : w.heap.size ≤ gb107)); have n3_ := Aside0.mk ((by rw [hg]; exact (below_size (by repeat (first | (with_reducible first | exact HB.out | apply below_alloc | apply pw_below_drewN | apply below_drew1) | exact HB.out))) : w.heap.size ≤ gb107)); clear HB; have HB := n0_; have BK107 := n1_; have GW107 := n2_; have GE107 := n3_; clear n0_ n1_ n2_ n3_; clear hb hbox hg))
 repeat (go_quiet (first | ((with_reducible refine gate_dst (N := 3) rfl ?_); (try (refine gate_guard (by rfl) ?_; dsimp only)); refine box_event ?hg (N := 3) ?hd (cs := #[.int .i64 a1_0, .slice A1_1 l1_1.length c1_1, .slice A1_2 l1_2.length c1_2, .slice A1_3 l1_3.length c1_3, .slice A1_4 l1_4.length c1_4]) (t := 34) ?hr ?_; (case hd => rfl); (case hg => rfl); (case hr => first | (go_simp; done) | (go_simp; rfl)); intro gb107 hg w4 hbox hb; have n0_ := Aside0.mk (below_step (by repeat (first | (with_reducible first | exact HB.out | apply below_alloc | apply pw_below_drewN | apply below_drew1) | exact HB.out)) hb); have n1_ := Aside0.mk (hbox); have n2_ := Aside0.mk ((by rw [hg]; exact (below_size (by repeat (first | (with_reducible first | exact HB.out | apply below_alloc | apply pw_below_drewN | apply below_drew1) | exact HB.out))) : w.heap.size ≤ gb107)); have n3_ := Aside0.mk ((by rw [hg]; exact (below_size (by repeat (first | (with_reducible first | exact HB.out | apply below_alloc | apply pw_below_drewN | apply below_drew1) | exact HB.out))) : w.heap.size ≤ gb107)); clear HB; have HB := n0_; have BK107 := n1_; have GW107 := n2_; have GE107 := n3_; clear n0_ n1_ n2_ n3_; clear hb hbox hg)); go_upto_region 2 with (first | ((with_reducible refine gate_dst (N := 3) rfl ?_); (try (refine gate_guard (by rfl) ?_; dsimp only)); refine box_event ?hg (N := 3) ?hd (cs := #[.int .i64 a1_0, .slice A1_1 l1_1.length c1_1, .slice A1_2 l1_2.length c1_2, .slice A1_3 l1_3.length c1_3, .slice A1_4 l1_4.length c1_4]) (t := 34) ?hr ?_; (case hd => rfl); (case hg => rfl); (case hr => first | (go_simp; done) | (go_simp; rfl)); intro gb107 hg w4 hbox hb; have n0_ := Aside0.mk (below_step (by repeat (first | (with_reducible first | exact HB.out | apply below_alloc | apply pw_below_drewN | apply below_drew1) | exact HB.out)) hb); have n1_ := Aside0.mk (hbox); have n2_ := Aside0.mk ((by rw [hg]; exact (below_size (by repeat (first | (with_reducible first | exact HB.out | apply below_alloc | apply pw_below_drewN | apply below_drew1) | exact HB.out))) : w.heap.size ≤ gb107)); have n3_ := Aside0.mk ((by rw [hg]; exact (below_size (by repeat (first | (with_reducible first | exact HB.out | apply below_alloc | apply pw_below_drewN | apply below_drew1) | exact HB.out))) : w.heap.size ≤ gb107)); clear HB; have HB := n0_; have BK107 := n1_; have GW107 := n2_; have GE107 := n3_; clear n0_ n1_ n2_ n3_; clear hb hbox hg)))
 (try simp only [Act.put, List.setIfInBounds_toArray, List.set_cons_zero, List.set_cons_succ])
 go_cut [47] (fun v47 wc => ∃ (kq : Nat) (x47_2 : Bool), v47 = .bool x47_2 ∧ Aside0 (belts_Valid.j0 kq l0 x47_2 a1_0 l1_1 l1_2 l1_3 l1_4 = some r) ∧ Aside0 (kq ≤ k) ∧ Aside0 (wc.heap[gb107]? = some (.cells #[.int .i64 a1_0, (.slice A1_1 l1_1.length c1_1), (.slice A1_2 l1_2.length c1_2), (.slice A1_3 l1_3.length c1_3), (.slice A1_4 l1_4.length c1_4)] 34 (0, 0))) ∧ Aside0 (Below w.heap.size w wc))
 case first =>
  have H := HC3.out
  clear HC3
  replace H := Option.bind_eq_some_iff.mp H
  obtain ⟨t108, A50, H⟩ := H
  replace H : (if t108 = true then (if (l1_1.length : Int) = (l0.length : Int) then (if (l1_2.length : Int) = (l0.length : Int) then (if (l1_3.length : Int) = (l0.length : Int) then (if (l1_4.length : Int) = (l0.length : Int) then ((lists_In.f a1_0 0 2147483648).bind fun t109 => (belts_Valid.j0 k l0 (!t109) a1_0 l1_1 l1_2 l1_3 l1_4)) else (belts_Valid.j0 k l0 true a1_0 l1_1 l1_2 l1_3 l1_4)) else (belts_Valid.j0 k l0 true a1_0 l1_1 l1_2 l1_3 l1_4)) else (belts_Valid.j0 k l0 true a1_0 l1_1 l1_2 l1_3 l1_4)) else (belts_Valid.j0 k l0 true a1_0 l1_1 l1_2 l1_3 l1_4)) else (belts_Valid.j0 k l0 true a1_0 l1_1 l1_2 l1_3 l1_4)) = some r := H
  have A5 := Aside0.mk A50
  clear A50
  by_cases c6 : t108 = true
  ·subst c6
   have H1 : (if (l1_1.length : Int) = (l0.length : Int) then (if (l1_2.length : Int) = (l0.length : Int) then (if (l1_3.length : Int) = (l0.length : Int) then (if (l1_4.length : Int) = (l0.length : Int) then ((lists_In.f a1_0 0 2147483648).bind fun t109 => (belts_Valid.j0 k l0 (!t109) a1_0 l1_1 l1_2 l1_3 l1_4)) else (belts_Valid.j0 k l0 true a1_0 l1_1 l1_2 l1_3 l1_4)) else (belts_Valid.j0 k l0 true a1_0 l1_1 l1_2 l1_3 l1_4)) else (belts_Valid.j0 k l0 true a1_0 l1_1 l1_2 l1_3 l1_4)) else (belts_Valid.j0 k l0 true a1_0 l1_1 l1_2 l1_3 l1_4)) = some r := by rw [if_pos rfl] at H; exact H
   clear H
   have H := H1
   clear H1
   by_cases c7 : (l1_1.length : Int) = (l0.length : Int)
   ·rw [if_pos c7] at H
    have c7b0 : ((l1_1.length : Int) == (l0.length : Int)) = true := beq_iff_eq.mpr c7
    have c7b1 : ((l1_1.length : Int) != (l0.length : Int)) = false := bne_eq_false_iff_eq.mpr c7
    have c7b2 : (l1_1.length == l0.length) = true := by first | simpa using c7 | (simp at c7 ⊢; omega)
    clear c7
    (first | rw [c7b0] | (simp only [i64_w, i32_w]; rw [c7b0]) | skip)
    by_cases c8 : (l1_2.length : Int) = (l0.length : Int)
    ·rw [if_pos c8] at H
     have c8b0 : ((l1_2.length : Int) == (l0.length : Int)) = true := beq_iff_eq.mpr c8
     have c8b1 : ((l1_2.length : Int) != (l0.length : Int)) = false := bne_eq_false_iff_eq.mpr c8
     have c8b2 : (l1_2.length == l0.length) = true := by first | simpa using c8 | (simp at c8 ⊢; omega)
     clear c8
     by_cases c9 : (l1_3.length : Int) = (l0.length : Int)
     ·rw [if_pos c9] at H
      have c9b0 : ((l1_3.length : Int) == (l0.length : Int)) = true := beq_iff_eq.mpr c9
      have c9b1 : ((l1_3.length : Int) != (l0.length : Int)) = false := bne_eq_false_iff_eq.mpr c9
      have c9b2 : (l1_3.length == l0.length) = true := by first | simpa using c9 | (simp at c9 ⊢; omega)
      clear c9
      by_cases c10 : (l1_4.length : Int) = (l0.length : Int)
      ·rw [if_pos c10] at H
       have c10b0 : ((l1_4.length : Int) == (l0.length : Int)) = true := beq_iff_eq.mpr c10
       have c10b1 : ((l1_4.length : Int) != (l0.length : Int)) = false := bne_eq_false_iff_eq.mpr c10
       have c10b2 : (l1_4.length == l0.length) = true := by first | simpa using c10 | (simp at c10 ⊢; omega)
       clear c10
       replace H := Option.bind_eq_some_iff.mp H
       obtain ⟨t109, A110, H⟩ := H
       replace H : (belts_Valid.j0 k l0 (!t109) a1_0 l1_1 l1_2 l1_3 l1_4) = some r := H
       have A11 := Aside0.mk A110
       clear A110
       have H' := Aside0.mk H
       clear H
       go_wp2_with (first | (go_at_call 29; (with_reducible refine (belts_sound.calls k _ _ l0 true _ ?side1 ?side2 A5.out).mono ?_); (case side1 => repeat (first | exact (Kd.C_below HR0.out HB.out) | (with_reducible refine Kd.C_alloc ?_ _) | (with_reducible refine Kd.C_drewN ?_ _) | (with_reducible refine Kd.C_drew ?_))); (case side2 => exact HC0.out); rintro e w12 ⟨rfl, hb⟩; have n0_ := Aside0.mk (blk_below (g := gb107) (o := .cells #[.int .i64 a1_0, .slice A1_1 l1_1.length c1_1, .slice A1_2 l1_2.length c1_2, .slice A1_3 l1_3.length c1_3, .slice A1_4 l1_4.length c1_4] 34 (0, 0)) (by (with_reducible repeat (first | refine blk_drewN ?_ _ | refine blk_drew ?_ | refine blk_alloc ?_ _)); exact BK107.out) hb); have n1_ := Aside0.mk (below_step (by repeat (first | (with_reducible first | exact HB.out | apply below_alloc | apply pw_below_drewN | apply below_drew1 | refine below_set ?_ GE107.out) | exact HB.out)) hb); clear BK107; clear HB; have BK107 := n0_; have HB := n1_; clear n0_ n1_; (try clear hb); (try clear hb2); (try clear hk); (try clear hi); have hcz13_0 : w12.cell? ⟨gb107, 0, none⟩ = some (.int .i64 a1_0) := (blk_cell BK107.out 0).trans rfl; have hcz13_1 : w12.cell? ⟨gb107, 1, none⟩ = some (.slice A1_1 l1_1.length c1_1) := (blk_cell BK107.out 1).trans rfl; have hcz13_2 : w12.cell? ⟨gb107, 2, none⟩ = some (.slice A1_2 l1_2.length c1_2) := (blk_cell BK107.out 2).trans rfl; have hcz13_3 : w12.cell? ⟨gb107, 3, none⟩ = some (.slice A1_3 l1_3.length c1_3) := (blk_cell BK107.out 3).trans rfl; have hcz13_4 : w12.cell? ⟨gb107, 4, none⟩ = some (.slice A1_4 l1_4.length c1_4) := (blk_cell BK107.out 4).trans rfl; have hfz13_0 := blk_frozen BK107.out 0; have hfz13_1 := blk_frozen BK107.out 1; have hfz13_2 := blk_frozen BK107.out 2; have hfz13_3 := blk_frozen BK107.out 3; have hfz13_4 := blk_frozen BK107.out 4) | (go_at_call 33; (with_reducible refine (lists_In.calls a1_0 0 2147483648 t109 _ A11.out).mono ?_); rintro e w' ⟨rfl, ⟨nd, rfl⟩⟩; (try first | exact ⟨rfl, _, World.drewN_drewN _ _ _⟩ | exact ⟨rfl, _, Eq.trans (World.drewN_drewN _ _ _) (congrArg (World.drewN _) (Nat.add_assoc _ _ _))⟩)))
       repeat (go_quiet (first | (go_at_call 29; (with_reducible refine (belts_sound.calls k _ _ l0 true _ ?side1 ?side2 A5.out).mono ?_); (case side1 => repeat (first | exact (Kd.C_below HR0.out HB.out) | (with_reducible refine Kd.C_alloc ?_ _) | (with_reducible refine Kd.C_drewN ?_ _) | (with_reducible refine Kd.C_drew ?_))); (case side2 => exact HC0.out); rintro e w12 ⟨rfl, hb⟩; have n0_ := Aside0.mk (blk_below (g := gb107) (o := .cells #[.int .i64 a1_0, .slice A1_1 l1_1.length c1_1, .slice A1_2 l1_2.length c1_2, .slice A1_3 l1_3.length c1_3, .slice A1_4 l1_4.length c1_4] 34 (0, 0)) (by (with_reducible repeat (first | refine blk_drewN ?_ _ | refine blk_drew ?_ | refine blk_alloc ?_ _)); exact BK107.out) hb); have n1_ := Aside0.mk (below_step (by repeat (first | (with_reducible first | exact HB.out | apply below_alloc | apply pw_below_drewN | apply below_drew1 | refine below_set ?_ GE107.out) | exact HB.out)) hb); clear BK107; clear HB; have BK107 := n0_; have HB := n1_; clear n0_ n1_; (try clear hb); (try clear hb2); (try clear hk); (try clear hi); have hcz13_0 : w12.cell? ⟨gb107, 0, none⟩ = some (.int .i64 a1_0) := (blk_cell BK107.out 0).trans rfl; have hcz13_1 : w12.cell? ⟨gb107, 1, none⟩ = some (.slice A1_1 l1_1.length c1_1) := (blk_cell BK107.out 1).trans rfl; have hcz13_2 : w12.cell? ⟨gb107, 2, none⟩ = some (.slice A1_2 l1_2.length c1_2) := (blk_cell BK107.out 2).trans rfl; have hcz13_3 : w12.cell? ⟨gb107, 3, none⟩ = some (.slice A1_3 l1_3.length c1_3) := (blk_cell BK107.out 3).trans rfl; have hcz13_4 : w12.cell? ⟨gb107, 4, none⟩ = some (.slice A1_4 l1_4.length c1_4) := (blk_cell BK107.out 4).trans rfl; have hfz13_0 := blk_frozen BK107.out 0; have hfz13_1 := blk_frozen BK107.out 1; have hfz13_2 := blk_frozen BK107.out 2; have hfz13_3 := blk_frozen BK107.out 3; have hfz13_4 := blk_frozen BK107.out 4) | (go_at_call 33; (with_reducible refine (lists_In.calls a1_0 0 2147483648 t109 _ A11.out).mono ?_); rintro e w' ⟨rfl, ⟨nd, rfl⟩⟩; (try first | exact ⟨rfl, _, World.drewN_drewN _ _ _⟩ | exact ⟨rfl, _, Eq.trans (World.drewN_drewN _ _ _) (congrArg (World.drewN _) (Nat.add_assoc _ _ _))⟩))); try go_wp2_with (first | (go_at_call 29; (with_reducible refine (belts_sound.calls k _ _ l0 true _ ?side1 ?side2 A5.out).mono ?_); (case side1 => repeat (first | exact (Kd.C_below HR0.out HB.out) | (with_reducible refine Kd.C_alloc ?_ _) | (with_reducible refine Kd.C_drewN ?_ _) | (with_reducible refine Kd.C_drew ?_))); (case side2 => exact HC0.out); rintro e w12 ⟨rfl, hb⟩; have n0_ := Aside0.mk (blk_below (g := gb107) (o := .cells #[.int .i64 a1_0, .slice A1_1 l1_1.length c1_1, .slice A1_2 l1_2.length c1_2, .slice A1_3 l1_3.length c1_3, .slice A1_4 l1_4.length c1_4] 34 (0, 0)) (by (with_reducible repeat (first | refine blk_drewN ?_ _ | refine blk_drew ?_ | refine blk_alloc ?_ _)); exact BK107.out) hb); have n1_ := Aside0.mk (below_step (by repeat (first | (with_reducible first | exact HB.out | apply below_alloc | apply pw_below_drewN | apply below_drew1 | refine below_set ?_ GE107.out) | exact HB.out)) hb); clear BK107; clear HB; have BK107 := n0_; have HB := n1_; clear n0_ n1_; (try clear hb); (try clear hb2); (try clear hk); (try clear hi); have hcz13_0 : w12.cell? ⟨gb107, 0, none⟩ = some (.int .i64 a1_0) := (blk_cell BK107.out 0).trans rfl; have hcz13_1 : w12.cell? ⟨gb107, 1, none⟩ = some (.slice A1_1 l1_1.length c1_1) := (blk_cell BK107.out 1).trans rfl; have hcz13_2 : w12.cell? ⟨gb107, 2, none⟩ = some (.slice A1_2 l1_2.length c1_2) := (blk_cell BK107.out 2).trans rfl; have hcz13_3 : w12.cell? ⟨gb107, 3, none⟩ = some (.slice A1_3 l1_3.length c1_3) := (blk_cell BK107.out 3).trans rfl; have hcz13_4 : w12.cell? ⟨gb107, 4, none⟩ = some (.slice A1_4 l1_4.length c1_4) := (blk_cell BK107.out 4).trans rfl; have hfz13_0 := blk_frozen BK107.out 0; have hfz13_1 := blk_frozen BK107.out 1; have hfz13_2 := blk_frozen BK107.out 2; have hfz13_3 := blk_frozen BK107.out 3; have hfz13_4 := blk_frozen BK107.out 4) | (go_at_call 33; (with_reducible refine (lists_In.calls a1_0 0 2147483648 t109 _ A11.out).mono ?_); rintro e w' ⟨rfl, ⟨nd, rfl⟩⟩; (try first | exact ⟨rfl, _, World.drewN_drewN _ _ _⟩ | exact ⟨rfl, _, Eq.trans (World.drewN_drewN _ _ _) (congrArg (World.drewN _) (Nat.add_assoc _ _ _))⟩))))
       go_meet
       case rel => exact ⟨_, (!t109), (by first | rfl | (simp; done) | (simp [*]; done)), H', ⟨by first | omega | exact Nat.le_refl _⟩, ⟨by (with_reducible repeat (first | refine blk_drewN ?_ _ | refine blk_drew ?_ | refine blk_alloc ?_ _)); exact BK107.out⟩, ⟨by repeat (first | (with_reducible first | exact HB.out | apply below_alloc | apply pw_below_drewN | apply below_drew1 | refine below_set ?_ GE107.out) | exact HB.out)⟩⟩
      ·rw [if_neg c10] at H
       have c10b0 : ((l1_4.length : Int) == (l0.length : Int)) = false := beq_eq_false_iff_ne.mpr c10
       have c10b1 : ((l1_4.length : Int) != (l0.length : Int)) = true := bne_iff_ne.mpr c10
       have c10b2 : (l1_4.length == l0.length) = false := by first | simpa using c10 | (simp at c10 ⊢; omega)
       have H' := Aside0.mk H
       clear H
       go_wp2_with (first | (go_at_call 29; (with_reducible refine (belts_sound.calls k _ _ l0 true _ ?side1 ?side2 A5.out).mono ?_); (case side1 => repeat (first | exact (Kd.C_below HR0.out HB.out) | (with_reducible refine Kd.C_alloc ?_ _) | (with_reducible refine Kd.C_drewN ?_ _) | (with_reducible refine Kd.C_drew ?_))); (case side2 => exact HC0.out); rintro e w14 ⟨rfl, hb⟩; have n0_ := Aside0.mk (blk_below (g := gb107) (o := .cells #[.int .i64 a1_0, .slice A1_1 l1_1.length c1_1, .slice A1_2 l1_2.length c1_2, .slice A1_3 l1_3.length c1_3, .slice A1_4 l1_4.length c1_4] 34 (0, 0)) (by (with_reducible repeat (first | refine blk_drewN ?_ _ | refine blk_drew ?_ | refine blk_alloc ?_ _)); exact BK107.out) hb); have n1_ := Aside0.mk (below_step (by repeat (first | (with_reducible first | exact HB.out | apply below_alloc | apply pw_below_drewN | apply below_drew1 | refine below_set ?_ GE107.out) | exact HB.out)) hb); clear BK107; clear HB; have BK107 := n0_; have HB := n1_; clear n0_ n1_; (try clear hb); (try clear hb2); (try clear hk); (try clear hi); have hcz15_0 : w14.cell? ⟨gb107, 0, none⟩ = some (.int .i64 a1_0) := (blk_cell BK107.out 0).trans rfl; have hcz15_1 : w14.cell? ⟨gb107, 1, none⟩ = some (.slice A1_1 l1_1.length c1_1) := (blk_cell BK107.out 1).trans rfl; have hcz15_2 : w14.cell? ⟨gb107, 2, none⟩ = some (.slice A1_2 l1_2.length c1_2) := (blk_cell BK107.out 2).trans rfl; have hcz15_3 : w14.cell? ⟨gb107, 3, none⟩ = some (.slice A1_3 l1_3.length c1_3) := (blk_cell BK107.out 3).trans rfl; have hcz15_4 : w14.cell? ⟨gb107, 4, none⟩ = some (.slice A1_4 l1_4.length c1_4) := (blk_cell BK107.out 4).trans rfl; have hfz15_0 := blk_frozen BK107.out 0; have hfz15_1 := blk_frozen BK107.out 1; have hfz15_2 := blk_frozen BK107.out 2; have hfz15_3 := blk_frozen BK107.out 3; have hfz15_4 := blk_frozen BK107.out 4))
       repeat (go_quiet (first | (go_at_call 29; (with_reducible refine (belts_sound.calls k _ _ l0 true _ ?side1 ?side2 A5.out).mono ?_); (case side1 => repeat (first | exact (Kd.C_below HR0.out HB.out) | (with_reducible refine Kd.C_alloc ?_ _) | (with_reducible refine Kd.C_drewN ?_ _) | (with_reducible refine Kd.C_drew ?_))); (case side2 => exact HC0.out); rintro e w14 ⟨rfl, hb⟩; have n0_ := Aside0.mk (blk_below (g := gb107) (o := .cells #[.int .i64 a1_0, .slice A1_1 l1_1.length c1_1, .slice A1_2 l1_2.length c1_2, .slice A1_3 l1_3.length c1_3, .slice A1_4 l1_4.length c1_4] 34 (0, 0)) (by (with_reducible repeat (first | refine blk_drewN ?_ _ | refine blk_drew ?_ | refine blk_alloc ?_ _)); exact BK107.out) hb); have n1_ := Aside0.mk (below_step (by repeat (first | (with_reducible first | exact HB.out | apply below_alloc | apply pw_below_drewN | apply below_drew1 | refine below_set ?_ GE107.out) | exact HB.out)) hb); clear BK107; clear HB; have BK107 := n0_; have HB := n1_; clear n0_ n1_; (try clear hb); (try clear hb2); (try clear hk); (try clear hi); have hcz15_0 : w14.cell? ⟨gb107, 0, none⟩ = some (.int .i64 a1_0) := (blk_cell BK107.out 0).trans rfl; have hcz15_1 : w14.cell? ⟨gb107, 1, none⟩ = some (.slice A1_1 l1_1.length c1_1) := (blk_cell BK107.out 1).trans rfl; have hcz15_2 : w14.cell? ⟨gb107, 2, none⟩ = some (.slice A1_2 l1_2.length c1_2) := (blk_cell BK107.out 2).trans rfl; have hcz15_3 : w14.cell? ⟨gb107, 3, none⟩ = some (.slice A1_3 l1_3.length c1_3) := (blk_cell BK107.out 3).trans rfl; have hcz15_4 : w14.cell? ⟨gb107, 4, none⟩ = some (.slice A1_4 l1_4.length c1_4) := (blk_cell BK107.out 4).trans rfl; have hfz15_0 := blk_frozen BK107.out 0; have hfz15_1 := blk_frozen BK107.out 1; have hfz15_2 := blk_frozen BK107.out 2; have hfz15_3 := blk_frozen BK107.out 3; have hfz15_4 := blk_frozen BK107.out 4)); try go_wp2_with (first | (go_at_call 29; (with_reducible refine (belts_sound.calls k _ _ l0 true _ ?side1 ?side2 A5.out).mono ?_); (case side1 => repeat (first | exact (Kd.C_below HR0.out HB.out) | (with_reducible refine Kd.C_alloc ?_ _) | (with_reducible refine Kd.C_drewN ?_ _) | (with_reducible refine Kd.C_drew ?_))); (case side2 => exact HC0.out); rintro e w14 ⟨rfl, hb⟩; have n0_ := Aside0.mk (blk_below (g := gb107) (o := .cells #[.int .i64 a1_0, .slice A1_1 l1_1.length c1_1, .slice A1_2 l1_2.length c1_2, .slice A1_3 l1_3.length c1_3, .slice A1_4 l1_4.length c1_4] 34 (0, 0)) (by (with_reducible repeat (first | refine blk_drewN ?_ _ | refine blk_drew ?_ | refine blk_alloc ?_ _)); exact BK107.out) hb); have n1_ := Aside0.mk (below_step (by repeat (first | (with_reducible first | exact HB.out | apply below_alloc | apply pw_below_drewN | apply below_drew1 | refine below_set ?_ GE107.out) | exact HB.out)) hb); clear BK107; clear HB; have BK107 := n0_; have HB := n1_; clear n0_ n1_; (try clear hb); (try clear hb2); (try clear hk); (try clear hi); have hcz15_0 : w14.cell? ⟨gb107, 0, none⟩ = some (.int .i64 a1_0) := (blk_cell BK107.out 0).trans rfl; have hcz15_1 : w14.cell? ⟨gb107, 1, none⟩ = some (.slice A1_1 l1_1.length c1_1) := (blk_cell BK107.out 1).trans rfl; have hcz15_2 : w14.cell? ⟨gb107, 2, none⟩ = some (.slice A1_2 l1_2.length c1_2) := (blk_cell BK107.out 2).trans rfl; have hcz15_3 : w14.cell? ⟨gb107, 3, none⟩ = some (.slice A1_3 l1_3.length c1_3) := (blk_cell BK107.out 3).trans rfl; have hcz15_4 : w14.cell? ⟨gb107, 4, none⟩ = some (.slice A1_4 l1_4.length c1_4) := (blk_cell BK107.out 4).trans rfl; have hfz15_0 := blk_frozen BK107.out 0; have hfz15_1 := blk_frozen BK107.out 1; have hfz15_2 := blk_frozen BK107.out 2; have hfz15_3 := blk_frozen BK107.out 3; have hfz15_4 := blk_frozen BK107.out 4)))
       go_meet
       case rel => exact ⟨_, (true), (by first | rfl | (simp; done) | (simp [*]; done)), H', ⟨by first | omega | exact Nat.le_refl _⟩, ⟨by (with_reducible repeat (first | refine blk_drewN ?_ _ | refine blk_drew ?_ | refine blk_alloc ?_ _)); exact BK107.out⟩, ⟨by repeat (first | (with_reducible first | exact HB.out | apply below_alloc | apply pw_below_drewN | apply below_drew1 | refine below_set ?_ GE107.out) | exact HB.out)⟩⟩
     ·rw [if_neg c9] at H
      have c9b0 : ((l1_3.length : Int) == (l0.length : Int)) = false := beq_eq_false_iff_ne.mpr c9
      have c9b1 : ((l1_3.length : Int) != (l0.length : Int)) = true := bne_iff_ne.mpr c9
      have c9b2 : (l1_3.length == l0.length) = false := by first | simpa using c9 | (simp at c9 ⊢; omega)
      have H' := Aside0.mk H
      clear H
      go_wp2_with (first | (go_at_call 29; (with_reducible refine (belts_sound.calls k _ _ l0 true _ ?side1 ?side2 A5.out).mono ?_); (case side1 => repeat (first | exact (Kd.C_below HR0.out HB.out) | (with_reducible refine Kd.C_alloc ?_ _) | (with_reducible refine Kd.C_drewN ?_ _) | (with_reducible refine Kd.C_drew ?_))); (case side2 => exact HC0.out); rintro e w16 ⟨rfl, hb⟩; have n0_ := Aside0.mk (blk_below (g := gb107) (o := .cells #[.int .i64 a1_0, .slice A1_1 l1_1.length c1_1, .slice A1_2 l1_2.length c1_2, .slice A1_3 l1_3.length c1_3, .slice A1_4 l1_4.length c1_4] 34 (0, 0)) (by (with_reducible repeat (first | refine blk_drewN ?_ _ | refine blk_drew ?_ | refine blk_alloc ?_ _)); exact BK107.out) hb); have n1_ := Aside0.mk (below_step (by repeat (first | (with_reducible first | exact HB.out | apply below_alloc | apply pw_below_drewN | apply below_drew1 | refine below_set ?_ GE107.out) | exact HB.out)) hb); clear BK107; clear HB; have BK107 := n0_; have HB := n1_; clear n0_ n1_; (try clear hb); (try clear hb2); (try clear hk); (try clear hi); have hcz17_0 : w16.cell? ⟨gb107, 0, none⟩ = some (.int .i64 a1_0) := (blk_cell BK107.out 0).trans rfl; have hcz17_1 : w16.cell? ⟨gb107, 1, none⟩ = some (.slice A1_1 l1_1.length c1_1) := (blk_cell BK107.out 1).trans rfl; have hcz17_2 : w16.cell? ⟨gb107, 2, none⟩ = some (.slice A1_2 l1_2.length c1_2) := (blk_cell BK107.out 2).trans rfl; have hcz17_3 : w16.cell? ⟨gb107, 3, none⟩ = some (.slice A1_3 l1_3.length c1_3) := (blk_cell BK107.out 3).trans rfl; have hcz17_4 : w16.cell? ⟨gb107, 4, none⟩ = some (.slice A1_4 l1_4.length c1_4) := (blk_cell BK107.out 4).trans rfl; have hfz17_0 := blk_frozen BK107.out 0; have hfz17_1 := blk_frozen BK107.out 1; have hfz17_2 := blk_frozen BK107.out 2; have hfz17_3 := blk_frozen BK107.out 3; have hfz17_4 := blk_frozen BK107.out 4))
      repeat (go_quiet (first | (go_at_call 29; (with_reducible refine (belts_sound.calls k _ _ l0 true _ ?side1 ?side2 A5.out).mono ?_); (case side1 => repeat (first | exact (Kd.C_below HR0.out HB.out) | (with_reducible refine Kd.C_alloc ?_ _) | (with_reducible refine Kd.C_drewN ?_ _) | (with_reducible refine Kd.C_drew ?_))); (case side2 => exact HC0.out); rintro e w16 ⟨rfl, hb⟩; have n0_ := Aside0.mk (blk_below (g := gb107) (o := .cells #[.int .i64 a1_0, .slice A1_1 l1_1.length c1_1, .slice A1_2 l1_2.length c1_2, .slice A1_3 l1_3.length c1_3, .slice A1_4 l1_4.length c1_4] 34 (0, 0)) (by (with_reducible repeat (first | refine blk_drewN ?_ _ | refine blk_drew ?_ | refine blk_alloc ?_ _)); exact BK107.out) hb); have n1_ := Aside0.mk (below_step (by repeat (first | (with_reducible first | exact HB.out | apply below_alloc | apply pw_below_drewN | apply below_drew1 | refine below_set ?_ GE107.out) | exact HB.out)) hb); clear BK107; clear HB; have BK107 := n0_; have HB := n1_; clear n0_ n1_; (try clear hb); (try clear hb2); (try clear hk); (try clear hi); have hcz17_0 : w16.cell? ⟨gb107, 0, none⟩ = some (.int .i64 a1_0) := (blk_cell BK107.out 0).trans rfl; have hcz17_1 : w16.cell? ⟨gb107, 1, none⟩ = some (.slice A1_1 l1_1.length c1_1) := (blk_cell BK107.out 1).trans rfl; have hcz17_2 : w16.cell? ⟨gb107, 2, none⟩ = some (.slice A1_2 l1_2.length c1_2) := (blk_cell BK107.out 2).trans rfl; have hcz17_3 : w16.cell? ⟨gb107, 3, none⟩ = some (.slice A1_3 l1_3.length c1_3) := (blk_cell BK107.out 3).trans rfl; have hcz17_4 : w16.cell? ⟨gb107, 4, none⟩ = some (.slice A1_4 l1_4.length c1_4) := (blk_cell BK107.out 4).trans rfl; have hfz17_0 := blk_frozen BK107.out 0; have hfz17_1 := blk_frozen BK107.out 1; have hfz17_2 := blk_frozen BK107.out 2; have hfz17_3 := blk_frozen BK107.out 3; have hfz17_4 := blk_frozen BK107.out 4)); try go_wp2_with (first | (go_at_call 29; (with_reducible refine (belts_sound.calls k _ _ l0 true _ ?side1 ?side2 A5.out).mono ?_); (case side1 => repeat (first | exact (Kd.C_below HR0.out HB.out) | (with_reducible refine Kd.C_alloc ?_ _) | (with_reducible refine Kd.C_drewN ?_ _) | (with_reducible refine Kd.C_drew ?_))); (case side2 => exact HC0.out); rintro e w16 ⟨rfl, hb⟩; have n0_ := Aside0.mk (blk_below (g := gb107) (o := .cells #[.int .i64 a1_0, .slice A1_1 l1_1.length c1_1, .slice A1_2 l1_2.length c1_2, .slice A1_3 l1_3.length c1_3, .slice A1_4 l1_4.length c1_4] 34 (0, 0)) (by (with_reducible repeat (first | refine blk_drewN ?_ _ | refine blk_drew ?_ | refine blk_alloc ?_ _)); exact BK107.out) hb); have n1_ := Aside0.mk (below_step (by repeat (first | (with_reducible first | exact HB.out | apply below_alloc | apply pw_below_drewN | apply below_drew1 | refine below_set ?_ GE107.out) | exact HB.out)) hb); clear BK107; clear HB; have BK107 := n0_; have HB := n1_; clear n0_ n1_; (try clear hb); (try clear hb2); (try clear hk); (try clear hi); have hcz17_0 : w16.cell? ⟨gb107, 0, none⟩ = some (.int .i64 a1_0) := (blk_cell BK107.out 0).trans rfl; have hcz17_1 : w16.cell? ⟨gb107, 1, none⟩ = some (.slice A1_1 l1_1.length c1_1) := (blk_cell BK107.out 1).trans rfl; have hcz17_2 : w16.cell? ⟨gb107, 2, none⟩ = some (.slice A1_2 l1_2.length c1_2) := (blk_cell BK107.out 2).trans rfl; have hcz17_3 : w16.cell? ⟨gb107, 3, none⟩ = some (.slice A1_3 l1_3.length c1_3) := (blk_cell BK107.out 3).trans rfl; have hcz17_4 : w16.cell? ⟨gb107, 4, none⟩ = some (.slice A1_4 l1_4.length c1_4) := (blk_cell BK107.out 4).trans rfl; have hfz17_0 := blk_frozen BK107.out 0; have hfz17_1 := blk_frozen BK107.out 1; have hfz17_2 := blk_frozen BK107.out 2; have hfz17_3 := blk_frozen BK107.out 3; have hfz17_4 := blk_frozen BK107.out 4)))
      go_meet
      case rel => exact ⟨_, (true), (by first | rfl | (simp; done) | (simp [*]; done)), H', ⟨by first | omega | exact Nat.le_refl _⟩, ⟨by (with_reducible repeat (first | refine blk_drewN ?_ _ | refine blk_drew ?_ | refine blk_alloc ?_ _)); exact BK107.out⟩, ⟨by repeat (first | (with_reducible first | exact HB.out | apply below_alloc | apply pw_below_drewN | apply below_drew1 | refine below_set ?_ GE107.out) | exact HB.out)⟩⟩
    ·rw [if_neg c8] at H
     have c8b0 : ((l1_2.length : Int) == (l0.length : Int)) = false := beq_eq_false_iff_ne.mpr c8
     have c8b1 : ((l1_2.length : Int) != (l0.length : Int)) = true := bne_iff_ne.mpr c8
     have c8b2 : (l1_2.length == l0.length) = false := by first | simpa using c8 | (simp at c8 ⊢; omega)
     have H' := Aside0.mk H
     clear H
     go_wp2_with (first | (go_at_call 29; (with_reducible refine (belts_sound.calls k _ _ l0 true _ ?side1 ?side2 A5.out).mono ?_); (case side1 => repeat (first | exact (Kd.C_below HR0.out HB.out) | (with_reducible refine Kd.C_alloc ?_ _) | (with_reducible refine Kd.C_drewN ?_ _) | (with_reducible refine Kd.C_drew ?_))); (case side2 => exact HC0.out); rintro e w18 ⟨rfl, hb⟩; have n0_ := Aside0.mk (blk_below (g := gb107) (o := .cells #[.int .i64 a1_0, .slice A1_1 l1_1.length c1_1, .slice A1_2 l1_2.length c1_2, .slice A1_3 l1_3.length c1_3, .slice A1_4 l1_4.length c1_4] 34 (0, 0)) (by (with_reducible repeat (first | refine blk_drewN ?_ _ | refine blk_drew ?_ | refine blk_alloc ?_ _)); exact BK107.out) hb); have n1_ := Aside0.mk (below_step (by repeat (first | (with_reducible first | exact HB.out | apply below_alloc | apply pw_below_drewN | apply below_drew1 | refine below_set ?_ GE107.out) | exact HB.out)) hb); clear BK107; clear HB; have BK107 := n0_; have HB := n1_; clear n0_ n1_; (try clear hb); (try clear hb2); (try clear hk); (try clear hi); have hcz19_0 : w18.cell? ⟨gb107, 0, none⟩ = some (.int .i64 a1_0) := (blk_cell BK107.out 0).trans rfl; have hcz19_1 : w18.cell? ⟨gb107, 1, none⟩ = some (.slice A1_1 l1_1.length c1_1) := (blk_cell BK107.out 1).trans rfl; have hcz19_2 : w18.cell? ⟨gb107, 2, none⟩ = some (.slice A1_2 l1_2.length c1_2) := (blk_cell BK107.out 2).trans rfl; have hcz19_3 : w18.cell? ⟨gb107, 3, none⟩ = some (.slice A1_3 l1_3.length c1_3) := (blk_cell BK107.out 3).trans rfl; have hcz19_4 : w18.cell? ⟨gb107, 4, none⟩ = some (.slice A1_4 l1_4.length c1_4) := (blk_cell BK107.out 4).trans rfl; have hfz19_0 := blk_frozen BK107.out 0; have hfz19_1 := blk_frozen BK107.out 1; have hfz19_2 := blk_frozen BK107.out 2; have hfz19_3 := blk_frozen BK107.out 3; have hfz19_4 := blk_frozen BK107.out 4))
     repeat (go_quiet (first | (go_at_call 29; (with_reducible refine (belts_sound.calls k _ _ l0 true _ ?side1 ?side2 A5.out).mono ?_); (case side1 => repeat (first | exact (Kd.C_below HR0.out HB.out) | (with_reducible refine Kd.C_alloc ?_ _) | (with_reducible refine Kd.C_drewN ?_ _) | (with_reducible refine Kd.C_drew ?_))); (case side2 => exact HC0.out); rintro e w18 ⟨rfl, hb⟩; have n0_ := Aside0.mk (blk_below (g := gb107) (o := .cells #[.int .i64 a1_0, .slice A1_1 l1_1.length c1_1, .slice A1_2 l1_2.length c1_2, .slice A1_3 l1_3.length c1_3, .slice A1_4 l1_4.length c1_4] 34 (0, 0)) (by (with_reducible repeat (first | refine blk_drewN ?_ _ | refine blk_drew ?_ | refine blk_alloc ?_ _)); exact BK107.out) hb); have n1_ := Aside0.mk (below_step (by repeat (first | (with_reducible first | exact HB.out | apply below_alloc | apply pw_below_drewN | apply below_drew1 | refine below_set ?_ GE107.out) | exact HB.out)) hb); clear BK107; clear HB; have BK107 := n0_; have HB := n1_; clear n0_ n1_; (try clear hb); (try clear hb2); (try clear hk); (try clear hi); have hcz19_0 : w18.cell? ⟨gb107, 0, none⟩ = some (.int .i64 a1_0) := (blk_cell BK107.out 0).trans rfl; have hcz19_1 : w18.cell? ⟨gb107, 1, none⟩ = some (.slice A1_1 l1_1.length c1_1) := (blk_cell BK107.out 1).trans rfl; have hcz19_2 : w18.cell? ⟨gb107, 2, none⟩ = some (.slice A1_2 l1_2.length c1_2) := (blk_cell BK107.out 2).trans rfl; have hcz19_3 : w18.cell? ⟨gb107, 3, none⟩ = some (.slice A1_3 l1_3.length c1_3) := (blk_cell BK107.out 3).trans rfl; have hcz19_4 : w18.cell? ⟨gb107, 4, none⟩ = some (.slice A1_4 l1_4.length c1_4) := (blk_cell BK107.out 4).trans rfl; have hfz19_0 := blk_frozen BK107.out 0; have hfz19_1 := blk_frozen BK107.out 1; have hfz19_2 := blk_frozen BK107.out 2; have hfz19_3 := blk_frozen BK107.out 3; have hfz19_4 := blk_frozen BK107.out 4)); try go_wp2_with (first | (go_at_call 29; (with_reducible refine (belts_sound.calls k _ _ l0 true _ ?side1 ?side2 A5.out).mono ?_); (case side1 => repeat (first | exact (Kd.C_below HR0.out HB.out) | (with_reducible refine Kd.C_alloc ?_ _) | (with_reducible refine Kd.C_drewN ?_ _) | (with_reducible refine Kd.C_drew ?_))); (case side2 => exact HC0.out); rintro e w18 ⟨rfl, hb⟩; have n0_ := Aside0.mk (blk_below (g := gb107) (o := .cells #[.int .i64 a1_0, .slice A1_1 l1_1.length c1_1, .slice A1_2 l1_2.length c1_2, .slice A1_3 l1_3.length c1_3, .slice A1_4 l1_4.length c1_4] 34 (0, 0)) (by (with_reducible repeat (first | refine blk_drewN ?_ _ | refine blk_drew ?_ | refine blk_alloc ?_ _)); exact BK107.out) hb); have n1_ := Aside0.mk (below_step (by repeat (first | (with_reducible first | exact HB.out | apply below_alloc | apply pw_below_drewN | apply below_drew1 | refine below_set ?_ GE107.out) | exact HB.out)) hb); clear BK107; clear HB; have BK107 := n0_; have HB := n1_; clear n0_ n1_; (try clear hb); (try clear hb2); (try clear hk); (try clear hi); have hcz19_0 : w18.cell? ⟨gb107, 0, none⟩ = some (.int .i64 a1_0) := (blk_cell BK107.out 0).trans rfl; have hcz19_1 : w18.cell? ⟨gb107, 1, none⟩ = some (.slice A1_1 l1_1.length c1_1) := (blk_cell BK107.out 1).trans rfl; have hcz19_2 : w18.cell? ⟨gb107, 2, none⟩ = some (.slice A1_2 l1_2.length c1_2) := (blk_cell BK107.out 2).trans rfl; have hcz19_3 : w18.cell? ⟨gb107, 3, none⟩ = some (.slice A1_3 l1_3.length c1_3) := (blk_cell BK107.out 3).trans rfl; have hcz19_4 : w18.cell? ⟨gb107, 4, none⟩ = some (.slice A1_4 l1_4.length c1_4) := (blk_cell BK107.out 4).trans rfl; have hfz19_0 := blk_frozen BK107.out 0; have hfz19_1 := blk_frozen BK107.out 1; have hfz19_2 := blk_frozen BK107.out 2; have hfz19_3 := blk_frozen BK107.out 3; have hfz19_4 := blk_frozen BK107.out 4)))
     go_meet
     case rel => exact ⟨_, (true), (by first | rfl | (simp; done) | (simp [*]; done)), H', ⟨by first | omega | exact Nat.le_refl _⟩, ⟨by (with_reducible repeat (first | refine blk_drewN ?_ _ | refine blk_drew ?_ | refine blk_alloc ?_ _)); exact BK107.out⟩, ⟨by repeat (first | (with_reducible first | exact HB.out | apply below_alloc | apply pw_below_drewN | apply below_drew1 | refine below_set ?_ GE107.out) | exact HB.out)⟩⟩
   ·rw [if_neg c7] at H
    have c7b0 : ((l1_1.length : Int) == (l0.length : Int)) = false := beq_eq_false_iff_ne.mpr c7
    have c7b1 : ((l1_1.length : Int) != (l0.length : Int)) = true := bne_iff_ne.mpr c7
    have c7b2 : (l1_1.length == l0.length) = false := by first | simpa using c7 | (simp at c7 ⊢; omega)
    (first | rw [c7b0] | (simp only [i64_w, i32_w]; rw [c7b0]) | skip)
    have H' := Aside0.mk H
    clear H
    go_wp2_with (first | (go_at_call 29; (with_reducible refine (belts_sound.calls k _ _ l0 true _ ?side1 ?side2 A5.out).mono ?_); (case side1 => repeat (first | exact (Kd.C_below HR0.out HB.out) | (with_reducible refine Kd.C_alloc ?_ _) | (with_reducible refine Kd.C_drewN ?_ _) | (with_reducible refine Kd.C_drew ?_))); (case side2 => exact HC0.out); rintro e w20 ⟨rfl, hb⟩; have n0_ := Aside0.mk (blk_below (g := gb107) (o := .cells #[.int .i64 a1_0, .slice A1_1 l1_1.length c1_1, .slice A1_2 l1_2.length c1_2, .slice A1_3 l1_3.length c1_3, .slice A1_4 l1_4.length c1_4] 34 (0, 0)) (by (with_reducible repeat (first | refine blk_drewN ?_ _ | refine blk_drew ?_ | refine blk_alloc ?_ _)); exact BK107.out) hb); have n1_ := Aside0.mk (below_step (by repeat (first | (with_reducible first | exact HB.out | apply below_alloc | apply pw_below_drewN | apply below_drew1 | refine below_set ?_ GE107.out) | exact HB.out)) hb); clear BK107; clear HB; have BK107 := n0_; have HB := n1_; clear n0_ n1_; (try clear hb); (try clear hb2); (try clear hk); (try clear hi); have hcz21_0 : w20.cell? ⟨gb107, 0, none⟩ = some (.int .i64 a1_0) := (blk_cell BK107.out 0).trans rfl; have hcz21_1 : w20.cell? ⟨gb107, 1, none⟩ = some (.slice A1_1 l1_1.length c1_1) := (blk_cell BK107.out 1).trans rfl; have hcz21_2 : w20.cell? ⟨gb107, 2, none⟩ = some (.slice A1_2 l1_2.length c1_2) := (blk_cell BK107.out 2).trans rfl; have hcz21_3 : w20.cell? ⟨gb107, 3, none⟩ = some (.slice A1_3 l1_3.length c1_3) := (blk_cell BK107.out 3).trans rfl; have hcz21_4 : w20.cell? ⟨gb107, 4, none⟩ = some (.slice A1_4 l1_4.length c1_4) := (blk_cell BK107.out 4).trans rfl; have hfz21_0 := blk_frozen BK107.out 0; have hfz21_1 := blk_frozen BK107.out 1; have hfz21_2 := blk_frozen BK107.out 2; have hfz21_3 := blk_frozen BK107.out 3; have hfz21_4 := blk_frozen BK107.out 4))
    repeat (go_quiet (first | (go_at_call 29; (with_reducible refine (belts_sound.calls k _ _ l0 true _ ?side1 ?side2 A5.out).mono ?_); (case side1 => repeat (first | exact (Kd.C_below HR0.out HB.out) | (with_reducible refine Kd.C_alloc ?_ _) | (with_reducible refine Kd.C_drewN ?_ _) | (with_reducible refine Kd.C_drew ?_))); (case side2 => exact HC0.out); rintro e w20 ⟨rfl, hb⟩; have n0_ := Aside0.mk (blk_below (g := gb107) (o := .cells #[.int .i64 a1_0, .slice A1_1 l1_1.length c1_1, .slice A1_2 l1_2.length c1_2, .slice A1_3 l1_3.length c1_3, .slice A1_4 l1_4.length c1_4] 34 (0, 0)) (by (with_reducible repeat (first | refine blk_drewN ?_ _ | refine blk_drew ?_ | refine blk_alloc ?_ _)); exact BK107.out) hb); have n1_ := Aside0.mk (below_step (by repeat (first | (with_reducible first | exact HB.out | apply below_alloc | apply pw_below_drewN | apply below_drew1 | refine below_set ?_ GE107.out) | exact HB.out)) hb); clear BK107; clear HB; have BK107 := n0_; have HB := n1_; clear n0_ n1_; (try clear hb); (try clear hb2); (try clear hk); (try clear hi); have hcz21_0 : w20.cell? ⟨gb107, 0, none⟩ = some (.int .i64 a1_0) := (blk_cell BK107.out 0).trans rfl; have hcz21_1 : w20.cell? ⟨gb107, 1, none⟩ = some (.slice A1_1 l1_1.length c1_1) := (blk_cell BK107.out 1).trans rfl; have hcz21_2 : w20.cell? ⟨gb107, 2, none⟩ = some (.slice A1_2 l1_2.length c1_2) := (blk_cell BK107.out 2).trans rfl; have hcz21_3 : w20.cell? ⟨gb107, 3, none⟩ = some (.slice A1_3 l1_3.length c1_3) := (blk_cell BK107.out 3).trans rfl; have hcz21_4 : w20.cell? ⟨gb107, 4, none⟩ = some (.slice A1_4 l1_4.length c1_4) := (blk_cell BK107.out 4).trans rfl; have hfz21_0 := blk_frozen BK107.out 0; have hfz21_1 := blk_frozen BK107.out 1; have hfz21_2 := blk_frozen BK107.out 2; have hfz21_3 := blk_frozen BK107.out 3; have hfz21_4 := blk_frozen BK107.out 4)); try go_wp2_with (first | (go_at_call 29; (with_reducible refine (belts_sound.calls k _ _ l0 true _ ?side1 ?side2 A5.out).mono ?_); (case side1 => repeat (first | exact (Kd.C_below HR0.out HB.out) | (with_reducible refine Kd.C_alloc ?_ _) | (with_reducible refine Kd.C_drewN ?_ _) | (with_reducible refine Kd.C_drew ?_))); (case side2 => exact HC0.out); rintro e w20 ⟨rfl, hb⟩; have n0_ := Aside0.mk (blk_below (g := gb107) (o := .cells #[.int .i64 a1_0, .slice A1_1 l1_1.length c1_1, .slice A1_2 l1_2.length c1_2, .slice A1_3 l1_3.length c1_3, .slice A1_4 l1_4.length c1_4] 34 (0, 0)) (by (with_reducible repeat (first | refine blk_drewN ?_ _ | refine blk_drew ?_ | refine blk_alloc ?_ _)); exact BK107.out) hb); have n1_ := Aside0.mk (below_step (by repeat (first | (with_reducible first | exact HB.out | apply below_alloc | apply pw_below_drewN | apply below_drew1 | refine below_set ?_ GE107.out) | exact HB.out)) hb); clear BK107; clear HB; have BK107 := n0_; have HB := n1_; clear n0_ n1_; (try clear hb); (try clear hb2); (try clear hk); (try clear hi); have hcz21_0 : w20.cell? ⟨gb107, 0, none⟩ = some (.int .i64 a1_0) := (blk_cell BK107.out 0).trans rfl; have hcz21_1 : w20.cell? ⟨gb107, 1, none⟩ = some (.slice A1_1 l1_1.length c1_1) := (blk_cell BK107.out 1).trans rfl; have hcz21_2 : w20.cell? ⟨gb107, 2, none⟩ = some (.slice A1_2 l1_2.length c1_2) := (blk_cell BK107.out 2).trans rfl; have hcz21_3 : w20.cell? ⟨gb107, 3, none⟩ = some (.slice A1_3 l1_3.length c1_3) := (blk_cell BK107.out 3).trans rfl; have hcz21_4 : w20.cell? ⟨gb107, 4, none⟩ = some (.slice A1_4 l1_4.length c1_4) := (blk_cell BK107.out 4).trans rfl; have hfz21_0 := blk_frozen BK107.out 0; have hfz21_1 := blk_frozen BK107.out 1; have hfz21_2 := blk_frozen BK107.out 2; have hfz21_3 := blk_frozen BK107.out 3; have hfz21_4 := blk_frozen BK107.out 4)))
    go_meet
    case rel => exact ⟨_, (true), (by first | rfl | (simp; done) | (simp [*]; done)), H', ⟨by first | omega | exact Nat.le_refl _⟩, ⟨by (with_reducible repeat (first | refine blk_drewN ?_ _ | refine blk_drew ?_ | refine blk_alloc ?_ _)); exact BK107.out⟩, ⟨by repeat (first | (with_reducible first | exact HB.out | apply below_alloc | apply pw_below_drewN | apply below_drew1 | refine below_set ?_ GE107.out) | exact HB.out)⟩⟩
  ·replace c6 := Bool.eq_false_iff.mpr c6
   subst c6
   have H1 : (belts_Valid.j0 k l0 true a1_0 l1_1 l1_2 l1_3 l1_4) = some r := by rw [if_neg (show ¬ (false = true) by decide)] at H; exact H
   clear H
   have H := H1
   clear H1
   have H' := Aside0.mk H
   clear H
   go_wp2_with (first | (go_at_call 29; (with_reducible refine (belts_sound.calls k _ _ l0 false _ ?side1 ?side2 A5.out).mono ?_); (case side1 => repeat (first | exact (Kd.C_below HR0.out HB.out) | (with_reducible refine Kd.C_alloc ?_ _) | (with_reducible refine Kd.C_drewN ?_ _) | (with_reducible refine Kd.C_drew ?_))); (case side2 => exact HC0.out); rintro e w22 ⟨rfl, hb⟩; have n0_ := Aside0.mk (blk_below (g := gb107) (o := .cells #[.int .i64 a1_0, .slice A1_1 l1_1.length c1_1, .slice A1_2 l1_2.length c1_2, .slice A1_3 l1_3.length c1_3, .slice A1_4 l1_4.length c1_4] 34 (0, 0)) (by (with_reducible repeat (first | refine blk_drewN ?_ _ | refine blk_drew ?_ | refine blk_alloc ?_ _)); exact BK107.out) hb); have n1_ := Aside0.mk (below_step (by repeat (first | (with_reducible first | exact HB.out | apply below_alloc | apply pw_below_drewN | apply below_drew1 | refine below_set ?_ GE107.out) | exact HB.out)) hb); clear BK107; clear HB; have BK107 := n0_; have HB := n1_; clear n0_ n1_; (try clear hb); (try clear hb2); (try clear hk); (try clear hi)))
   repeat (go_quiet (first | (go_at_call 29; (with_reducible refine (belts_sound.calls k _ _ l0 false _ ?side1 ?side2 A5.out).mono ?_); (case side1 => repeat (first | exact (Kd.C_below HR0.out HB.out) | (with_reducible refine Kd.C_alloc ?_ _) | (with_reducible refine Kd.C_drewN ?_ _) | (with_reducible refine Kd.C_drew ?_))); (case side2 => exact HC0.out); rintro e w22 ⟨rfl, hb⟩; have n0_ := Aside0.mk (blk_below (g := gb107) (o := .cells #[.int .i64 a1_0, .slice A1_1 l1_1.length c1_1, .slice A1_2 l1_2.length c1_2, .slice A1_3 l1_3.length c1_3, .slice A1_4 l1_4.length c1_4] 34 (0, 0)) (by (with_reducible repeat (first | refine blk_drewN ?_ _ | refine blk_drew ?_ | refine blk_alloc ?_ _)); exact BK107.out) hb); have n1_ := Aside0.mk (below_step (by repeat (first | (with_reducible first | exact HB.out | apply below_alloc | apply pw_below_drewN | apply below_drew1 | refine below_set ?_ GE107.out) | exact HB.out)) hb); clear BK107; clear HB; have BK107 := n0_; have HB := n1_; clear n0_ n1_; (try clear hb); (try clear hb2); (try clear hk); (try clear hi))); try go_wp2_with (first | (go_at_call 29; (with_reducible refine (belts_sound.calls k _ _ l0 false _ ?side1 ?side2 A5.out).mono ?_); (case side1 => repeat (first | exact (Kd.C_below HR0.out HB.out) | (with_reducible refine Kd.C_alloc ?_ _) | (with_reducible refine Kd.C_drewN ?_ _) | (with_reducible refine Kd.C_drew ?_))); (case side2 => exact HC0.out); rintro e w22 ⟨rfl, hb⟩; have n0_ := Aside0.mk (blk_below (g := gb107) (o := .cells #[.int .i64 a1_0, .slice A1_1 l1_1.length c1_1, .slice A1_2 l1_2.length c1_2, .slice A1_3 l1_3.length c1_3, .slice A1_4 l1_4.length c1_4] 34 (0, 0)) (by (with_reducible repeat (first | refine blk_drewN ?_ _ | refine blk_drew ?_ | refine blk_alloc ?_ _)); exact BK107.out) hb); have n1_ := Aside0.mk (below_step (by repeat (first | (with_reducible first | exact HB.out | apply below_alloc | apply pw_below_drewN | apply below_drew1 | refine below_set ?_ GE107.out) | exact HB.out)) hb); clear BK107; clear HB; have BK107 := n0_; have HB := n1_; clear n0_ n1_; (try clear hb); (try clear hb2); (try clear hk); (try clear hi))))
   go_meet
   case rel => exact ⟨_, (true), (by first | rfl | (simp; done) | (simp [*]; done)), H', ⟨by first | omega | exact Nat.le_refl _⟩, ⟨by (with_reducible repeat (first | refine blk_drewN ?_ _ | refine blk_drew ?_ | refine blk_alloc ?_ _)); exact BK107.out⟩, ⟨by repeat (first | (with_reducible first | exact HB.out | apply below_alloc | apply pw_below_drewN | apply below_drew1 | refine below_set ?_ GE107.out) | exact HB.out)⟩⟩
 case rest =>
  clear HC3; (try clear c1); (try clear c2); (try clear p2); (try clear c6); (try clear c7); (try clear c7b0); (try clear c7b1); (try clear c7b2); (try clear c8); (try clear c8b0); (try clear c8b1); (try clear c8b2); (try clear c9); (try clear c9b0); (try clear c9b1); (try clear c9b2); (try clear c10); (try clear c10b0); (try clear c10b1); (try clear c10b2); (try clear hcz13_0); (try clear hcz13_1); (try clear hcz13_2); (try clear hcz13_3); (try clear hcz13_4); (try clear hcz15_0); (try clear hcz15_1); (try clear hcz15_2); (try clear hcz15_3); (try clear hcz15_4); (try clear hcz17_0); (try clear hcz17_1)
  (try clear hcz17_2); (try clear hcz17_3); (try clear hcz17_4); (try clear hcz19_0); (try clear hcz19_1); (try clear hcz19_2); (try clear hcz19_3); (try clear hcz19_4); (try clear hcz21_0); (try clear hcz21_1); (try clear hcz21_2); (try clear hcz21_3); (try clear hcz21_4); (try clear hfz13_0); (try clear hfz13_1); (try clear hfz13_2); (try clear hfz13_3); (try clear hfz13_4); (try clear hfz15_0); (try clear hfz15_1); (try clear hfz15_2); (try clear hfz15_3); (try clear hfz15_4); (try clear hfz17_0); (try clear hfz17_1); (try clear hfz17_2); (try clear hfz17_3); (try clear hfz17_4); (try clear hfz19_0)
  (try clear hfz19_1); (try clear hfz19_2); (try clear hfz19_3); (try clear hfz19_4); (try clear hfz21_0); (try clear hfz21_1); (try clear hfz21_2); (try clear hfz21_3); (try clear hfz21_4)
  obtain ⟨kq, x47_2, rfl, HA, HJ2, BK107, HB⟩ := hcut
  cases kq with
  | zero => exact absurd HA.out (by simp [belts_Valid.j0])
  | succ kj2 =>
   have H := HA.out
   clear HA
   simp only [belts_Valid.j0] at H
   by_cases c23 : x47_2 = true
   ·subst c23
    have H1 : (some false) = some r := by rw [if_pos rfl] at H; exact H
    clear H
    have H := H1
    clear H1
    obtain rfl := Option.some.inj H
    go_wp2
    repeat (go_quiet (fail); try go_wp2)
    go_ret
    exact ⟨by first | rfl | (simp [errW_none, errW_some] <;> rfl) | (simp [*, errW_none, errW_some] <;> rfl), by repeat (first | (with_reducible first | exact HB.out | apply below_alloc | apply pw_below_drewN | apply below_drew1 | refine below_set ?_ GE107.out) | exact HB.out)⟩
   ·replace c23 := Bool.eq_false_iff.mpr c23
    subst c23
    have H1 : (belts_Valid.l0 kj2 l0 l1_1 (l1_1.length : Int) 0 a1_0 l1_1 l1_2 l1_3 l1_4) = some r := by rw [if_neg (show ¬ (false = true) by decide)] at H; exact H
    clear H
    have H := H1
    clear H1
    have H' := Aside0.mk H
    clear H
    have hcz24_0 : wc.cell? ⟨gb107, 0, none⟩ = some (.int .i64 a1_0) := (blk_cell BK107.out 0).trans rfl
    have hcz24_1 : wc.cell? ⟨gb107, 1, none⟩ = some (.slice A1_1 l1_1.length c1_1) := (blk_cell BK107.out 1).trans rfl
    have hcz24_2 : wc.cell? ⟨gb107, 2, none⟩ = some (.slice A1_2 l1_2.length c1_2) := (blk_cell BK107.out 2).trans rfl
    have hcz24_3 : wc.cell? ⟨gb107, 3, none⟩ = some (.slice A1_3 l1_3.length c1_3) := (blk_cell BK107.out 3).trans rfl
    have hcz24_4 : wc.cell? ⟨gb107, 4, none⟩ = some (.slice A1_4 l1_4.length c1_4) := (blk_cell BK107.out 4).trans rfl
    have hfz24_0 := blk_frozen BK107.out 0
    have hfz24_1 := blk_frozen BK107.out 1
    have hfz24_2 := blk_frozen BK107.out 2
    have hfz24_3 := blk_frozen BK107.out 3
    have hfz24_4 := blk_frozen BK107.out 4
    go_wp2
    repeat (go_quiet (fail); try go_wp2)
    go_loopg [51] kj2 (fun kq v51 w' => ∃ (x51_2 : Int), v51 = .int .i64 x51_2 ∧ Aside0 (belts_Valid.l0 kq l0 l1_1 (l1_1.length : Int) x51_2 a1_0 l1_1 l1_2 l1_3 l1_4 = some r) ∧ Aside0 (kq ≤ kj2) ∧ Aside0 (w'.heap[gb107]? = some (.cells #[.int .i64 a1_0, (.slice A1_1 l1_1.length c1_1), (.slice A1_2 l1_2.length c1_2), (.slice A1_3 l1_3.length c1_3), (.slice A1_4 l1_4.length c1_4)] 34 (0, 0))) ∧ Aside0 (Below w.heap.size w w'))
    case atStart => exact ⟨(0), (by first | rfl | (simp; done) | (simp [*]; done)), H', ⟨Nat.le_refl _⟩, ⟨by (with_reducible repeat (first | refine blk_drewN ?_ _ | refine blk_drew ?_ | refine blk_alloc ?_ _)); exact BK107.out⟩, ⟨by repeat (first | (with_reducible first | exact HB.out | apply below_alloc | apply pw_below_drewN | apply below_drew1 | refine below_set ?_ GE107.out) | exact HB.out)⟩⟩
    case round =>
     clear H'; (try clear c1); (try clear c2); (try clear p2); (try clear c6); (try clear c7); (try clear c7b0); (try clear c7b1); (try clear c7b2); (try clear c8); (try clear c8b0); (try clear c8b1); (try clear c8b2); (try clear c9); (try clear c9b0); (try clear c9b1); (try clear c9b2); (try clear c10); (try clear c10b0); (try clear c10b1); (try clear c10b2); (try clear c23); (try clear hcz13_0); (try clear hcz13_1); (try clear hcz13_2); (try clear hcz13_3); (try clear hcz13_4); (try clear hcz15_0); (try clear hcz15_1); (try clear hcz15_2); (try clear hcz15_3); (try clear hcz15_4); (try clear hcz17_0)
     (try clear hcz17_1); (try clear hcz17_2); (try clear hcz17_3); (try clear hcz17_4); (try clear hcz19_0); (try clear hcz19_1); (try clear hcz19_2); (try clear hcz19_3); (try clear hcz19_4); (try clear hcz21_0); (try clear hcz21_1); (try clear hcz21_2); (try clear hcz21_3); (try clear hcz21_4); (try clear hcz24_0); (try clear hcz24_1); (try clear hcz24_2); (try clear hcz24_3); (try clear hcz24_4); (try clear hfz13_0); (try clear hfz13_1); (try clear hfz13_2); (try clear hfz13_3); (try clear hfz13_4); (try clear hfz15_0); (try clear hfz15_1); (try clear hfz15_2); (try clear hfz15_3); (try clear hfz15_4)
     (try clear hfz17_0); (try clear hfz17_1); (try clear hfz17_2); (try clear hfz17_3); (try clear hfz17_4); (try clear hfz19_0); (try clear hfz19_1); (try clear hfz19_2); (try clear hfz19_3); (try clear hfz19_4); (try clear hfz21_0); (try clear hfz21_1); (try clear hfz21_2); (try clear hfz21_3); (try clear hfz21_4); (try clear hfz24_0); (try clear hfz24_1); (try clear hfz24_2); (try clear hfz24_3); (try clear hfz24_4); (try clear p2)
     obtain ⟨x51_2, rfl, HA, HK2, BK107, HB⟩ := hrel
     cases gk with
     | zero => exact absurd HA.out (by simp [belts_Valid.l0])
     | succ k2 =>
      have H := HA.out
      clear HA
      simp only [belts_Valid.l0] at H
      by_cases c25 : x51_2 < (l1_1.length : Int)
      ·rw [if_pos c25] at H
       have c25b0 : decide (x51_2 < (l1_1.length : Int)) = true := decide_eq_true c25
       clear c25
       by_cases c26 : 0 ≤ x51_2
       ·rw [if_pos c26] at H
        have c26b0 : decide (0 ≤ x51_2) = true := decide_eq_true c26
        clear c26
        by_cases c27 : x51_2 < (l1_1.length : Int)
        ·rw [if_pos c27] at H
         have c27b0 : decide (x51_2 < (l1_1.length : Int)) = true := decide_eq_true c27
         clear c27
         by_cases c28 : x51_2 < (l0.length : Int)
         ·rw [if_pos c28] at H
          have c28b0 : decide (x51_2 < (l0.length : Int)) = true := decide_eq_true c28
          clear c28
          have HC29 := Aside0.mk H
          clear H
          have p110 : 0 ≤ (x51_2 : Int) := of_decide_eq_true (by first | (with_reducible assumption) | assumption)
          have q110 : x51_2 < (l1_1.length : Int) := of_decide_eq_true (by first | (with_reducible assumption) | assumption)
          obtain ⟨ad110, e110, hx110_0⟩ := Kd.at_int HR1_1.out x51_2 p110 q110
          cases e110
          replace hx110_0 := (HB.out.cell (World.block_lt_of_cell? w _ hx110_0)).trans hx110_0
          replace p110 := eq_true p110
          replace q110 := eq_true q110
          have p111 : 0 ≤ (x51_2 : Int) := of_decide_eq_true (by first | (with_reducible assumption) | assumption)
          have q111 : x51_2 < (l0.length : Int) := of_decide_eq_true (by first | (with_reducible assumption) | assumption)
          obtain ⟨ad111, e111, hx111_0, hx111_1⟩ := at_T31 HR0.out x51_2 p111 q111
          cases e111
          replace hx111_0 := (HB.out.cell (World.block_lt_of_cell? w _ hx111_0)).trans hx111_0
          replace hx111_1 := (HB.out.cell (World.block_lt_of_cell? w _ hx111_1)).trans hx111_1
          replace p111 := eq_true p111
          replace q111 := eq_true q111
          go_upto_region 8 with (fail)
          repeat (go_quiet (fail); go_upto_region 8 with (fail))
          go_cut [61] (fun v61 wc => ∃ (kq : Nat) (x61_28 : Bool), v61 = .bool x61_28 ∧ Aside0 (belts_Valid.j2 kq l0 x51_2 (rd l1_1 x51_2) ((rd_T31 l0 x51_2).f0) l1_1 (l1_1.length : Int) x51_2 x61_28 a1_0 l1_1 l1_2 l1_3 l1_4 = some r) ∧ Aside0 (kq ≤ k2) ∧ Aside0 (wc.heap[gb107]? = some (.cells #[.int .i64 a1_0, (.slice (some ad110) l1_1.length c1_1), (.slice A1_2 l1_2.length c1_2), (.slice A1_3 l1_3.length c1_3), (.slice A1_4 l1_4.length c1_4)] 34 (0, 0))) ∧ Aside0 (Below w.heap.size w wc))
          case first =>
           have H := HC29.out
           clear HC29
           replace H := Option.bind_eq_some_iff.mp H
           obtain ⟨t112, A300, H⟩ := H
           replace H : (if t112 = true then (if x51_2 < (l1_2.length : Int) then ((lists_In.f (rd l1_2 x51_2) 0 a1_0).bind fun t114 => (belts_Valid.j2 k2 l0 x51_2 (rd l1_1 x51_2) ((rd_T31 l0 x51_2).f0) l1_1 (l1_1.length : Int) x51_2 (!t114) a1_0 l1_1 l1_2 l1_3 l1_4)) else (none)) else (belts_Valid.j2 k2 l0 x51_2 (rd l1_1 x51_2) ((rd_T31 l0 x51_2).f0) l1_1 (l1_1.length : Int) x51_2 true a1_0 l1_1 l1_2 l1_3 l1_4)) = some r := H
           have A30 := Aside0.mk A300
           clear A300
           by_cases c31 : t112 = true
           ·subst c31
            have H1 : (if x51_2 < (l1_2.length : Int) then ((lists_In.f (rd l1_2 x51_2) 0 a1_0).bind fun t114 => (belts_Valid.j2 k2 l0 x51_2 (rd l1_1 x51_2) ((rd_T31 l0 x51_2).f0) l1_1 (l1_1.length : Int) x51_2 (!t114) a1_0 l1_1 l1_2 l1_3 l1_4)) else (none)) = some r := by rw [if_pos rfl] at H; exact H
            clear H
            have H := H1
            clear H1
            by_cases c32 : x51_2 < (l1_2.length : Int)
            ·rw [if_pos c32] at H
             have c32b0 : decide (x51_2 < (l1_2.length : Int)) = true := decide_eq_true c32
             clear c32
             (first | rw [c32b0] | (simp only [i64_w, i32_w]; rw [c32b0]) | skip)
             replace H := Option.bind_eq_some_iff.mp H
             obtain ⟨t114, A330, H⟩ := H
             replace H : (belts_Valid.j2 k2 l0 x51_2 (rd l1_1 x51_2) ((rd_T31 l0 x51_2).f0) l1_1 (l1_1.length : Int) x51_2 (!t114) a1_0 l1_1 l1_2 l1_3 l1_4) = some r := H
             have A33 := Aside0.mk A330
             clear A330
             have H' := Aside0.mk H
             clear H
             go_wp2_with (first | (go_at_call 33; (with_reducible refine (lists_In.calls (rd l1_1 x51_2) 0 2 true _ A30.out).mono ?_); rintro e w' ⟨rfl, ⟨nd, rfl⟩⟩; (try first | exact ⟨rfl, _, World.drewN_drewN _ _ _⟩ | exact ⟨rfl, _, Eq.trans (World.drewN_drewN _ _ _) (congrArg (World.drewN _) (Nat.add_assoc _ _ _))⟩); have hcz34_0 : wr.cell? ⟨gb107, 0, none⟩ = some (.int .i64 a1_0) := (blk_cell BK107.out 0).trans rfl; have hcz34_1 : wr.cell? ⟨gb107, 1, none⟩ = some (.slice (some ad110) l1_1.length c1_1) := (blk_cell BK107.out 1).trans rfl; have hcz34_2 : wr.cell? ⟨gb107, 2, none⟩ = some (.slice A1_2 l1_2.length c1_2) := (blk_cell BK107.out 2).trans rfl; have hcz34_3 : wr.cell? ⟨gb107, 3, none⟩ = some (.slice A1_3 l1_3.length c1_3) := (blk_cell BK107.out 3).trans rfl; have hcz34_4 : wr.cell? ⟨gb107, 4, none⟩ = some (.slice A1_4 l1_4.length c1_4) := (blk_cell BK107.out 4).trans rfl; have hfz34_0 := blk_frozen BK107.out 0; have hfz34_1 := blk_frozen BK107.out 1; have hfz34_2 := blk_frozen BK107.out 2; have hfz34_3 := blk_frozen BK107.out 3; have hfz34_4 := blk_frozen BK107.out 4; have p113 : 0 ≤ (x51_2 : Int) := of_decide_eq_true (by first | (with_reducible assumption) | assumption); have q113 : x51_2 < (l1_2.length : Int) := of_decide_eq_true (by first | (with_reducible assumption) | assumption); obtain ⟨ad113, e113, hx113_0⟩ := Kd.at_int HR1_2.out x51_2 p113 q113; cases e113; replace hx113_0 := (HB.out.cell (World.block_lt_of_cell? w _ hx113_0)).trans hx113_0; replace p113 := eq_true p113; replace q113 := eq_true q113) | (go_at_call 33; (with_reducible refine (lists_In.calls (rd l1_2 x51_2) 0 a1_0 t114 _ A33.out).mono ?_); rintro e w' ⟨rfl, ⟨nd, rfl⟩⟩; (try first | exact ⟨rfl, _, World.drewN_drewN _ _ _⟩ | exact ⟨rfl, _, Eq.trans (World.drewN_drewN _ _ _) (congrArg (World.drewN _) (Nat.add_assoc _ _ _))⟩)))
             repeat (go_quiet (first | (go_at_call 33; (with_reducible refine (lists_In.calls (rd l1_1 x51_2) 0 2 true _ A30.out).mono ?_); rintro e w' ⟨rfl, ⟨nd, rfl⟩⟩; (try first | exact ⟨rfl, _, World.drewN_drewN _ _ _⟩ | exact ⟨rfl, _, Eq.trans (World.drewN_drewN _ _ _) (congrArg (World.drewN _) (Nat.add_assoc _ _ _))⟩); have hcz34_0 : wr.cell? ⟨gb107, 0, none⟩ = some (.int .i64 a1_0) := (blk_cell BK107.out 0).trans rfl; have hcz34_1 : wr.cell? ⟨gb107, 1, none⟩ = some (.slice (some ad110) l1_1.length c1_1) := (blk_cell BK107.out 1).trans rfl; have hcz34_2 : wr.cell? ⟨gb107, 2, none⟩ = some (.slice A1_2 l1_2.length c1_2) := (blk_cell BK107.out 2).trans rfl; have hcz34_3 : wr.cell? ⟨gb107, 3, none⟩ = some (.slice A1_3 l1_3.length c1_3) := (blk_cell BK107.out 3).trans rfl; have hcz34_4 : wr.cell? ⟨gb107, 4, none⟩ = some (.slice A1_4 l1_4.length c1_4) := (blk_cell BK107.out 4).trans rfl; have hfz34_0 := blk_frozen BK107.out 0; have hfz34_1 := blk_frozen BK107.out 1; have hfz34_2 := blk_frozen BK107.out 2; have hfz34_3 := blk_frozen BK107.out 3; have hfz34_4 := blk_frozen BK107.out 4; have p113 : 0 ≤ (x51_2 : Int) := of_decide_eq_true (by first | (with_reducible assumption) | assumption); have q113 : x51_2 < (l1_2.length : Int) := of_decide_eq_true (by first | (with_reducible assumption) | assumption); obtain ⟨ad113, e113, hx113_0⟩ := Kd.at_int HR1_2.out x51_2 p113 q113; cases e113; replace hx113_0 := (HB.out.cell (World.block_lt_of_cell? w _ hx113_0)).trans hx113_0; replace p113 := eq_true p113; replace q113 := eq_true q113) | (go_at_call 33; (with_reducible refine (lists_In.calls (rd l1_2 x51_2) 0 a1_0 t114 _ A33.out).mono ?_); rintro e w' ⟨rfl, ⟨nd, rfl⟩⟩; (try first | exact ⟨rfl, _, World.drewN_drewN _ _ _⟩ | exact ⟨rfl, _, Eq.trans (World.drewN_drewN _ _ _) (congrArg (World.drewN _) (Nat.add_assoc _ _ _))⟩))); try go_wp2_with (first | (go_at_call 33; (with_reducible refine (lists_In.calls (rd l1_1 x51_2) 0 2 true _ A30.out).mono ?_); rintro e w' ⟨rfl, ⟨nd, rfl⟩⟩; (try first | exact ⟨rfl, _, World.drewN_drewN _ _ _⟩ | exact ⟨rfl, _, Eq.trans (World.drewN_drewN _ _ _) (congrArg (World.drewN _) (Nat.add_assoc _ _ _))⟩); have hcz34_0 : wr.cell? ⟨gb107, 0, none⟩ = some (.int .i64 a1_0) := (blk_cell BK107.out 0).trans rfl; have hcz34_1 : wr.cell? ⟨gb107, 1, none⟩ = some (.slice (some ad110) l1_1.length c1_1) := (blk_cell BK107.out 1).trans rfl; have hcz34_2 : wr.cell? ⟨gb107, 2, none⟩ = some (.slice A1_2 l1_2.length c1_2) := (blk_cell BK107.out 2).trans rfl; have hcz34_3 : wr.cell? ⟨gb107, 3, none⟩ = some (.slice A1_3 l1_3.length c1_3) := (blk_cell BK107.out 3).trans rfl; have hcz34_4 : wr.cell? ⟨gb107, 4, none⟩ = some (.slice A1_4 l1_4.length c1_4) := (blk_cell BK107.out 4).trans rfl; have hfz34_0 := blk_frozen BK107.out 0; have hfz34_1 := blk_frozen BK107.out 1; have hfz34_2 := blk_frozen BK107.out 2; have hfz34_3 := blk_frozen BK107.out 3; have hfz34_4 := blk_frozen BK107.out 4; have p113 : 0 ≤ (x51_2 : Int) := of_decide_eq_true (by first | (with_reducible assumption) | assumption); have q113 : x51_2 < (l1_2.length : Int) := of_decide_eq_true (by first | (with_reducible assumption) | assumption); obtain ⟨ad113, e113, hx113_0⟩ := Kd.at_int HR1_2.out x51_2 p113 q113; cases e113; replace hx113_0 := (HB.out.cell (World.block_lt_of_cell? w _ hx113_0)).trans hx113_0; replace p113 := eq_true p113; replace q113 := eq_true q113) | (go_at_call 33; (with_reducible refine (lists_In.calls (rd l1_2 x51_2) 0 a1_0 t114 _ A33.out).mono ?_); rintro e w' ⟨rfl, ⟨nd, rfl⟩⟩; (try first | exact ⟨rfl, _, World.drewN_drewN _ _ _⟩ | exact ⟨rfl, _, Eq.trans (World.drewN_drewN _ _ _) (congrArg (World.drewN _) (Nat.add_assoc _ _ _))⟩))))
             go_meet
             case rel => exact ⟨_, (!t114), (by first | rfl | (simp; done) | (simp [*]; done)), H', ⟨by have := HJ2.out; have := HK2.out; first | omega | exact Nat.le_refl _⟩, ⟨by (with_reducible repeat (first | refine blk_drewN ?_ _ | refine blk_drew ?_ | refine blk_alloc ?_ _)); exact BK107.out⟩, ⟨by repeat (first | (with_reducible first | exact HB.out | apply below_alloc | apply pw_below_drewN | apply below_drew1 | refine below_set ?_ GE107.out) | exact HB.out)⟩⟩
            ·rw [if_neg c32] at H
             exact absurd H (by simp)
           ·replace c31 := Bool.eq_false_iff.mpr c31
            subst c31
            have H1 : (belts_Valid.j2 k2 l0 x51_2 (rd l1_1 x51_2) ((rd_T31 l0 x51_2).f0) l1_1 (l1_1.length : Int) x51_2 true a1_0 l1_1 l1_2 l1_3 l1_4) = some r := by rw [if_neg (show ¬ (false = true) by decide)] at H; exact H
            clear H
            have H := H1
            clear H1
            have H' := Aside0.mk H
            clear H
            go_wp2_with (first | (go_at_call 33; (with_reducible refine (lists_In.calls (rd l1_1 x51_2) 0 2 false _ A30.out).mono ?_); rintro e w' ⟨rfl, ⟨nd, rfl⟩⟩; (try first | exact ⟨rfl, _, World.drewN_drewN _ _ _⟩ | exact ⟨rfl, _, Eq.trans (World.drewN_drewN _ _ _) (congrArg (World.drewN _) (Nat.add_assoc _ _ _))⟩)))
            repeat (go_quiet (first | (go_at_call 33; (with_reducible refine (lists_In.calls (rd l1_1 x51_2) 0 2 false _ A30.out).mono ?_); rintro e w' ⟨rfl, ⟨nd, rfl⟩⟩; (try first | exact ⟨rfl, _, World.drewN_drewN _ _ _⟩ | exact ⟨rfl, _, Eq.trans (World.drewN_drewN _ _ _) (congrArg (World.drewN _) (Nat.add_assoc _ _ _))⟩))); try go_wp2_with (first | (go_at_call 33; (with_reducible refine (lists_In.calls (rd l1_1 x51_2) 0 2 false _ A30.out).mono ?_); rintro e w' ⟨rfl, ⟨nd, rfl⟩⟩; (try first | exact ⟨rfl, _, World.drewN_drewN _ _ _⟩ | exact ⟨rfl, _, Eq.trans (World.drewN_drewN _ _ _) (congrArg (World.drewN _) (Nat.add_assoc _ _ _))⟩))))
            go_meet
            case rel => exact ⟨_, (true), (by first | rfl | (simp; done) | (simp [*]; done)), H', ⟨by have := HJ2.out; have := HK2.out; first | omega | exact Nat.le_refl _⟩, ⟨by (with_reducible repeat (first | refine blk_drewN ?_ _ | refine blk_drew ?_ | refine blk_alloc ?_ _)); exact BK107.out⟩, ⟨by repeat (first | (with_reducible first | exact HB.out | apply below_alloc | apply pw_below_drewN | apply below_drew1 | refine below_set ?_ GE107.out) | exact HB.out)⟩⟩
          case rest =>
           clear HC29; (try clear c1); (try clear p1); (try clear q1); (try clear hx1); (try clear c2); (try clear p2); (try clear c3); (try clear c6); (try clear c7); (try clear c7b0); (try clear c7b1); (try clear c7b2); (try clear c8); (try clear c8b0); (try clear c8b1); (try clear c8b2); (try clear c9); (try clear c9b0); (try clear c9b1); (try clear c9b2); (try clear c10); (try clear c10b0); (try clear c10b1); (try clear c10b2); (try clear p11); (try clear q11); (try clear hx11); (try clear c23); (try clear c25); (try clear c25b0); (try clear c26); (try clear c26b0); (try clear c27); (try clear c27b0)
           (try clear c28); (try clear c28b0); (try clear c31); (try clear c32); (try clear c32b0); (try clear hcz13_0); (try clear hcz13_1); (try clear hcz13_2); (try clear hcz13_3); (try clear hcz13_4); (try clear hcz15_0); (try clear hcz15_1); (try clear hcz15_2); (try clear hcz15_3); (try clear hcz15_4); (try clear hcz17_0); (try clear hcz17_1); (try clear hcz17_2); (try clear hcz17_3); (try clear hcz17_4); (try clear hcz19_0); (try clear hcz19_1); (try clear hcz19_2); (try clear hcz19_3); (try clear hcz19_4); (try clear hcz21_0); (try clear hcz21_1); (try clear hcz21_2); (try clear hcz21_3)
           (try clear hcz21_4); (try clear hcz24_0); (try clear hcz24_1); (try clear hcz24_2); (try clear hcz24_3); (try clear hcz24_4); (try clear hcz34_0); (try clear hcz34_1); (try clear hcz34_2); (try clear hcz34_3); (try clear hcz34_4); (try clear hfz13_0); (try clear hfz13_1); (try clear hfz13_2); (try clear hfz13_3); (try clear hfz13_4); (try clear hfz15_0); (try clear hfz15_1); (try clear hfz15_2); (try clear hfz15_3); (try clear hfz15_4); (try clear hfz17_0); (try clear hfz17_1); (try clear hfz17_2); (try clear hfz17_3); (try clear hfz17_4); (try clear hfz19_0); (try clear hfz19_1); (try clear hfz19_2)
           (try clear hfz19_3); (try clear hfz19_4); (try clear hfz21_0); (try clear hfz21_1); (try clear hfz21_2); (try clear hfz21_3); (try clear hfz21_4); (try clear hfz24_0); (try clear hfz24_1); (try clear hfz24_2); (try clear hfz24_3); (try clear hfz24_4); (try clear hfz34_0); (try clear hfz34_1); (try clear hfz34_2); (try clear hfz34_3); (try clear hfz34_4); (try clear hx110_0); (try clear hx111_0); (try clear hx111_1); (try clear hx113_0); (try clear p110); (try clear p111); (try clear p113); (try clear p2); (try clear q110); (try clear q111); (try clear q113)
           obtain ⟨kq, x61_28, rfl, HA, HJ28, BK107, HB⟩ := hcut
           cases kq with
           | zero => exact absurd HA.out (by simp [belts_Valid.j2])
           | succ kj28 =>
            have H := HA.out
            clear HA
            simp only [belts_Valid.j2] at H
            by_cases c35 : x61_28 = true
            ·subst c35
             have H1 : (some false) = some r := by rw [if_pos rfl] at H; exact H
             clear H
             have H := H1
             clear H1
             obtain rfl := Option.some.inj H
             go_wp2
             repeat (go_quiet (fail); try go_wp2)
             go_ret
             exact ⟨by first | rfl | (simp [errW_none, errW_some] <;> rfl) | (simp [*, errW_none, errW_some] <;> rfl), by repeat (first | (with_reducible first | exact HB.out | apply below_alloc | apply pw_below_drewN | apply below_drew1 | refine below_set ?_ GE107.out) | exact HB.out)⟩
            ·replace c35 := Bool.eq_false_iff.mpr c35
             subst c35
             have H1 : (if (rd l1_1 x51_2) = 0 then (belts_Valid.l0 kj28 l0 l1_1 (l1_1.length : Int) (wrap64 (x51_2 + 1)) a1_0 l1_1 l1_2 l1_3 l1_4) else (if 0 ≤ x51_2 then (if x51_2 < (l1_3.length : Int) then (if rdOf false l1_3 x51_2 = true then (belts_Valid.j3 kj28 l0 l1_1 (l1_1.length : Int) x51_2 true a1_0 l1_1 l1_2 l1_3 l1_4) else (if x51_2 < (l1_4.length : Int) then (if rdOf false l1_4 x51_2 = true then (belts_Valid.j3 kj28 l0 l1_1 (l1_1.length : Int) x51_2 true a1_0 l1_1 l1_2 l1_3 l1_4) else (if ((rd_T31 l0 x51_2).f0) ≥ 0 then (if 0 ≤ ((rd_T31 l0 x51_2).f0) then (if ((rd_T31 l0 x51_2).f0) < (l1_1.length : Int) then (belts_Valid.j3 kj28 l0 l1_1 (l1_1.length : Int) x51_2 ((rd l1_1 ((rd_T31 l0 x51_2).f0)) != 2) a1_0 l1_1 l1_2 l1_3 l1_4) else (none)) else (none)) else (belts_Valid.j3 kj28 l0 l1_1 (l1_1.length : Int) x51_2 false a1_0 l1_1 l1_2 l1_3 l1_4))) else (none))) else (none)) else (none))) = some r := by rw [if_neg (show ¬ (false = true) by decide)] at H; exact H
             clear H
             have H := H1
             clear H1
             by_cases c36 : (rd l1_1 x51_2) = 0
             ·rw [if_pos c36] at H
              have c36b0 : ((rd l1_1 x51_2) == 0) = true := beq_iff_eq.mpr c36
              have c36b1 : ((rd l1_1 x51_2) != 0) = false := bne_eq_false_iff_eq.mpr c36
              clear c36
              have H' := Aside0.mk H
              clear H
              go_wp2
              repeat (go_quiet (fail); try go_wp2)
              go_roundg kj28
              case measure => have := HJ2.out; have := HK2.out; have := HJ28.out; omega
              case rel => exact ⟨(wrap64 (x51_2 + 1)), (by first | rfl | (simp; done) | (simp [*]; done)), H', ⟨by have := HJ2.out; have := HK2.out; have := HJ28.out; omega⟩, ⟨by (with_reducible repeat (first | refine blk_drewN ?_ _ | refine blk_drew ?_ | refine blk_alloc ?_ _)); exact BK107.out⟩, ⟨by repeat (first | (with_reducible first | exact HB.out | apply below_alloc | apply pw_below_drewN | apply below_drew1 | refine below_set ?_ GE107.out) | exact HB.out)⟩⟩
             ·rw [if_neg c36] at H
              have c36b0 : ((rd l1_1 x51_2) == 0) = false := beq_eq_false_iff_ne.mpr c36
              have c36b1 : ((rd l1_1 x51_2) != 0) = true := bne_iff_ne.mpr c36
              have HC37 := Aside0.mk H
              clear H
              go_upto_region 11 with (fail)
              repeat (go_quiet (fail); go_upto_region 11 with (fail))
              go_cut [79] (fun v79 wc => ∃ (kq : Nat) (x79_36 : Bool), v79 = .bool x79_36 ∧ Aside0 (belts_Valid.j3 kq l0 l1_1 (l1_1.length : Int) x51_2 x79_36 a1_0 l1_1 l1_2 l1_3 l1_4 = some r) ∧ Aside0 (kq ≤ kj28) ∧ Aside0 (wc.heap[gb107]? = some (.cells #[.int .i64 a1_0, (.slice (some ad110) l1_1.length c1_1), (.slice A1_2 l1_2.length c1_2), (.slice A1_3 l1_3.length c1_3), (.slice A1_4 l1_4.length c1_4)] 34 (0, 0))) ∧ Aside0 (Below w.heap.size w wc))
              case first =>
               have H := HC37.out
               clear HC37
               by_cases c38 : 0 ≤ x51_2
               ·rw [if_pos c38] at H
                have c38b0 : decide (0 ≤ x51_2) = true := decide_eq_true c38
                clear c38
                (first | rw [c38b0] | (simp only [i64_w, i32_w]; rw [c38b0]) | skip)
                by_cases c39 : x51_2 < (l1_3.length : Int)
                ·rw [if_pos c39] at H
                 have c39b0 : decide (x51_2 < (l1_3.length : Int)) = true := decide_eq_true c39
                 clear c39
                 obtain ⟨bq40, hbq40⟩ : ∃ b_ : Bool, b_ = (rdOf false l1_3 x51_2) := ⟨_, rfl⟩
                 replace H : (if bq40 = true then (belts_Valid.j3 kj28 l0 l1_1 (l1_1.length : Int) x51_2 true a1_0 l1_1 l1_2 l1_3 l1_4) else (if x51_2 < (l1_4.length : Int) then (if rdOf false l1_4 x51_2 = true then (belts_Valid.j3 kj28 l0 l1_1 (l1_1.length : Int) x51_2 true a1_0 l1_1 l1_2 l1_3 l1_4) else (if ((rd_T31 l0 x51_2).f0) ≥ 0 then (if 0 ≤ ((rd_T31 l0 x51_2).f0) then (if ((rd_T31 l0 x51_2).f0) < (l1_1.length : Int) then (belts_Valid.j3 kj28 l0 l1_1 (l1_1.length : Int) x51_2 ((rd l1_1 ((rd_T31 l0 x51_2).f0)) != 2) a1_0 l1_1 l1_2 l1_3 l1_4) else (none)) else (none)) else (belts_Valid.j3 kj28 l0 l1_1 (l1_1.length : Int) x51_2 false a1_0 l1_1 l1_2 l1_3 l1_4))) else (none))) = some r := by rw [← hbq40] at H; exact H
                 have Nbq40 := Aside0.mk hbq40
                 clear hbq40
                 by_cases c41 : bq40 = true
                 ·subst c41
                  have H1 : (belts_Valid.j3 kj28 l0 l1_1 (l1_1.length : Int) x51_2 true a1_0 l1_1 l1_2 l1_3 l1_4) = some r := by rw [if_pos rfl] at H; exact H
                  clear H
                  have H := H1
                  clear H1
                  have H' := Aside0.mk H
                  clear H
                  have hcz42_0 : wc.cell? ⟨gb107, 0, none⟩ = some (.int .i64 a1_0) := (blk_cell BK107.out 0).trans rfl
                  have hcz42_1 : wc.cell? ⟨gb107, 1, none⟩ = some (.slice (some ad110) l1_1.length c1_1) := (blk_cell BK107.out 1).trans rfl
                  have hcz42_2 : wc.cell? ⟨gb107, 2, none⟩ = some (.slice A1_2 l1_2.length c1_2) := (blk_cell BK107.out 2).trans rfl
                  have hcz42_3 : wc.cell? ⟨gb107, 3, none⟩ = some (.slice A1_3 l1_3.length c1_3) := (blk_cell BK107.out 3).trans rfl
                  have hcz42_4 : wc.cell? ⟨gb107, 4, none⟩ = some (.slice A1_4 l1_4.length c1_4) := (blk_cell BK107.out 4).trans rfl
                  have hfz42_0 := blk_frozen BK107.out 0
                  have hfz42_1 := blk_frozen BK107.out 1
                  have hfz42_2 := blk_frozen BK107.out 2
                  have hfz42_3 := blk_frozen BK107.out 3
                  have hfz42_4 := blk_frozen BK107.out 4
                  have p115 : 0 ≤ (x51_2 : Int) := of_decide_eq_true (by first | (with_reducible assumption) | assumption)
                  have q115 : x51_2 < (l1_3.length : Int) := of_decide_eq_true (by first | (with_reducible assumption) | assumption)
                  obtain ⟨ad115, e115, hx115_0⟩ := Kd.at_bool HR1_3.out x51_2 p115 q115
                  (try rw [← Nbq40.out] at hx115_0)
                  cases e115
                  replace hx115_0 := (HB.out.cell (World.block_lt_of_cell? w _ hx115_0)).trans hx115_0
                  replace p115 := eq_true p115
                  replace q115 := eq_true q115
                  go_wp2
                  repeat (go_quiet (fail); try go_wp2)
                  go_meet
                  case rel => exact ⟨_, (true), (by first | rfl | (simp; done) | (simp [*]; done)), H', ⟨by have := HJ2.out; have := HK2.out; have := HJ28.out; first | omega | exact Nat.le_refl _⟩, ⟨by (with_reducible repeat (first | refine blk_drewN ?_ _ | refine blk_drew ?_ | refine blk_alloc ?_ _)); exact BK107.out⟩, ⟨by repeat (first | (with_reducible first | exact HB.out | apply below_alloc | apply pw_below_drewN | apply below_drew1 | refine below_set ?_ GE107.out) | exact HB.out)⟩⟩
                 ·replace c41 := Bool.eq_false_iff.mpr c41
                  subst c41
                  have H1 : (if x51_2 < (l1_4.length : Int) then (if rdOf false l1_4 x51_2 = true then (belts_Valid.j3 kj28 l0 l1_1 (l1_1.length : Int) x51_2 true a1_0 l1_1 l1_2 l1_3 l1_4) else (if ((rd_T31 l0 x51_2).f0) ≥ 0 then (if 0 ≤ ((rd_T31 l0 x51_2).f0) then (if ((rd_T31 l0 x51_2).f0) < (l1_1.length : Int) then (belts_Valid.j3 kj28 l0 l1_1 (l1_1.length : Int) x51_2 ((rd l1_1 ((rd_T31 l0 x51_2).f0)) != 2) a1_0 l1_1 l1_2 l1_3 l1_4) else (none)) else (none)) else (belts_Valid.j3 kj28 l0 l1_1 (l1_1.length : Int) x51_2 false a1_0 l1_1 l1_2 l1_3 l1_4))) else (none)) = some r := by rw [if_neg (show ¬ (false = true) by decide)] at H; exact H
                  clear H
                  have H := H1
                  clear H1
                  by_cases c43 : x51_2 < (l1_4.length : Int)
                  ·rw [if_pos c43] at H
                   have c43b0 : decide (x51_2 < (l1_4.length : Int)) = true := decide_eq_true c43
                   clear c43
                   obtain ⟨bq44, hbq44⟩ : ∃ b_ : Bool, b_ = (rdOf false l1_4 x51_2) := ⟨_, rfl⟩
                   replace H : (if bq44 = true then (belts_Valid.j3 kj28 l0 l1_1 (l1_1.length : Int) x51_2 true a1_0 l1_1 l1_2 l1_3 l1_4) else (if ((rd_T31 l0 x51_2).f0) ≥ 0 then (if 0 ≤ ((rd_T31 l0 x51_2).f0) then (if ((rd_T31 l0 x51_2).f0) < (l1_1.length : Int) then (belts_Valid.j3 kj28 l0 l1_1 (l1_1.length : Int) x51_2 ((rd l1_1 ((rd_T31 l0 x51_2).f0)) != 2) a1_0 l1_1 l1_2 l1_3 l1_4) else (none)) else (none)) else (belts_Valid.j3 kj28 l0 l1_1 (l1_1.length : Int) x51_2 false a1_0 l1_1 l1_2 l1_3 l1_4))) = some r := by rw [← hbq44] at H; exact H
                   have Nbq44 := Aside0.mk hbq44
                   clear hbq44
                   by_cases c45 : bq44 = true
                   ·subst c45
                    have H1 : (belts_Valid.j3 kj28 l0 l1_1 (l1_1.length : Int) x51_2 true a1_0 l1_1 l1_2 l1_3 l1_4) = some r := by rw [if_pos rfl] at H; exact H
                    clear H
                    have H := H1
                    clear H1
                    have H' := Aside0.mk H
                    clear H
                    have hcz46_0 : wc.cell? ⟨gb107, 0, none⟩ = some (.int .i64 a1_0) := (blk_cell BK107.out 0).trans rfl
                    have hcz46_1 : wc.cell? ⟨gb107, 1, none⟩ = some (.slice (some ad110) l1_1.length c1_1) := (blk_cell BK107.out 1).trans rfl
                    have hcz46_2 : wc.cell? ⟨gb107, 2, none⟩ = some (.slice A1_2 l1_2.length c1_2) := (blk_cell BK107.out 2).trans rfl
                    have hcz46_3 : wc.cell? ⟨gb107, 3, none⟩ = some (.slice A1_3 l1_3.length c1_3) := (blk_cell BK107.out 3).trans rfl
                    have hcz46_4 : wc.cell? ⟨gb107, 4, none⟩ = some (.slice A1_4 l1_4.length c1_4) := (blk_cell BK107.out 4).trans rfl
                    have hfz46_0 := blk_frozen BK107.out 0
                    have hfz46_1 := blk_frozen BK107.out 1
                    have hfz46_2 := blk_frozen BK107.out 2
                    have hfz46_3 := blk_frozen BK107.out 3
                    have hfz46_4 := blk_frozen BK107.out 4
                    have p115 : 0 ≤ (x51_2 : Int) := of_decide_eq_true (by first | (with_reducible assumption) | assumption)
                    have q115 : x51_2 < (l1_3.length : Int) := of_decide_eq_true (by first | (with_reducible assumption) | assumption)
                    obtain ⟨ad115, e115, hx115_0⟩ := Kd.at_bool HR1_3.out x51_2 p115 q115
                    (try rw [← Nbq40.out] at hx115_0)
                    (try rw [← Nbq44.out] at hx115_0)
                    cases e115
                    replace hx115_0 := (HB.out.cell (World.block_lt_of_cell? w _ hx115_0)).trans hx115_0
                    replace p115 := eq_true p115
                    replace q115 := eq_true q115
                    have p116 : 0 ≤ (x51_2 : Int) := of_decide_eq_true (by first | (with_reducible assumption) | assumption)
                    have q116 : x51_2 < (l1_4.length : Int) := of_decide_eq_true (by first | (with_reducible assumption) | assumption)
                    obtain ⟨ad116, e116, hx116_0⟩ := Kd.at_bool HR1_4.out x51_2 p116 q116
                    (try rw [← Nbq40.out] at hx116_0)
                    (try rw [← Nbq44.out] at hx116_0)
                    cases e116
                    replace hx116_0 := (HB.out.cell (World.block_lt_of_cell? w _ hx116_0)).trans hx116_0
                    replace p116 := eq_true p116
                    replace q116 := eq_true q116
                    go_wp2
                    repeat (go_quiet (fail); try go_wp2)
                    go_meet
                    case rel => exact ⟨_, (true), (by first | rfl | (simp; done) | (simp [*]; done)), H', ⟨by have := HJ2.out; have := HK2.out; have := HJ28.out; first | omega | exact Nat.le_refl _⟩, ⟨by (with_reducible repeat (first | refine blk_drewN ?_ _ | refine blk_drew ?_ | refine blk_alloc ?_ _)); exact BK107.out⟩, ⟨by repeat (first | (with_reducible first | exact HB.out | apply below_alloc | apply pw_below_drewN | apply below_drew1 | refine below_set ?_ GE107.out) | exact HB.out)⟩⟩
                   ·replace c45 := Bool.eq_false_iff.mpr c45
                    subst c45
                    have H1 : (if ((rd_T31 l0 x51_2).f0) ≥ 0 then (if 0 ≤ ((rd_T31 l0 x51_2).f0) then (if ((rd_T31 l0 x51_2).f0) < (l1_1.length : Int) then (belts_Valid.j3 kj28 l0 l1_1 (l1_1.length : Int) x51_2 ((rd l1_1 ((rd_T31 l0 x51_2).f0)) != 2) a1_0 l1_1 l1_2 l1_3 l1_4) else (none)) else (none)) else (belts_Valid.j3 kj28 l0 l1_1 (l1_1.length : Int) x51_2 false a1_0 l1_1 l1_2 l1_3 l1_4)) = some r := by rw [if_neg (show ¬ (false = true) by decide)] at H; exact H
                    clear H
                    have H := H1
                    clear H1
                    by_cases c47 : ((rd_T31 l0 x51_2).f0) ≥ 0
                    ·rw [if_pos c47] at H
                     have c47b0 : decide (0 ≤ ((rd_T31 l0 x51_2).f0)) = true := decide_eq_true c47
                     clear c47
                     by_cases c48 : 0 ≤ ((rd_T31 l0 x51_2).f0)
                     ·rw [if_pos c48] at H
                      have c48b0 : decide (0 ≤ ((rd_T31 l0 x51_2).f0)) = true := decide_eq_true c48
                      clear c48
                      by_cases c49 : ((rd_T31 l0 x51_2).f0) < (l1_1.length : Int)
                      ·rw [if_pos c49] at H
                       have c49b0 : decide (((rd_T31 l0 x51_2).f0) < (l1_1.length : Int)) = true := decide_eq_true c49
                       clear c49
                       have H' := Aside0.mk H
                       clear H
                       have hcz50_0 : wc.cell? ⟨gb107, 0, none⟩ = some (.int .i64 a1_0) := (blk_cell BK107.out 0).trans rfl
                       have hcz50_1 : wc.cell? ⟨gb107, 1, none⟩ = some (.slice (some ad110) l1_1.length c1_1) := (blk_cell BK107.out 1).trans rfl
                       have hcz50_2 : wc.cell? ⟨gb107, 2, none⟩ = some (.slice A1_2 l1_2.length c1_2) := (blk_cell BK107.out 2).trans rfl
                       have hcz50_3 : wc.cell? ⟨gb107, 3, none⟩ = some (.slice A1_3 l1_3.length c1_3) := (blk_cell BK107.out 3).trans rfl
                       have hcz50_4 : wc.cell? ⟨gb107, 4, none⟩ = some (.slice A1_4 l1_4.length c1_4) := (blk_cell BK107.out 4).trans rfl
                       have hfz50_0 := blk_frozen BK107.out 0
                       have hfz50_1 := blk_frozen BK107.out 1
                       have hfz50_2 := blk_frozen BK107.out 2
                       have hfz50_3 := blk_frozen BK107.out 3
                       have hfz50_4 := blk_frozen BK107.out 4
                       have p115 : 0 ≤ (x51_2 : Int) := of_decide_eq_true (by first | (with_reducible assumption) | assumption)
                       have q115 : x51_2 < (l1_3.length : Int) := of_decide_eq_true (by first | (with_reducible assumption) | assumption)
                       obtain ⟨ad115, e115, hx115_0⟩ := Kd.at_bool HR1_3.out x51_2 p115 q115
                       (try rw [← Nbq40.out] at hx115_0)
                       (try rw [← Nbq44.out] at hx115_0)
                       cases e115
                       replace hx115_0 := (HB.out.cell (World.block_lt_of_cell? w _ hx115_0)).trans hx115_0
                       replace p115 := eq_true p115
                       replace q115 := eq_true q115
                       have p116 : 0 ≤ (x51_2 : Int) := of_decide_eq_true (by first | (with_reducible assumption) | assumption)
                       have q116 : x51_2 < (l1_4.length : Int) := of_decide_eq_true (by first | (with_reducible assumption) | assumption)
                       obtain ⟨ad116, e116, hx116_0⟩ := Kd.at_bool HR1_4.out x51_2 p116 q116
                       (try rw [← Nbq40.out] at hx116_0)
                       (try rw [← Nbq44.out] at hx116_0)
                       cases e116
                       replace hx116_0 := (HB.out.cell (World.block_lt_of_cell? w _ hx116_0)).trans hx116_0
                       replace p116 := eq_true p116
                       replace q116 := eq_true q116
                       have p117 : 0 ≤ (((rd_T31 l0 x51_2).f0) : Int) := of_decide_eq_true (by first | (with_reducible assumption) | assumption)
                       have q117 : ((rd_T31 l0 x51_2).f0) < (l1_1.length : Int) := of_decide_eq_true (by first | (with_reducible assumption) | assumption)
                       obtain ⟨ad117, e117, hx117_0⟩ := Kd.at_int HR1_1.out ((rd_T31 l0 x51_2).f0) p117 q117
                       obtain rfl : ad110 = ad117 := (by injection e117)
                       replace hx117_0 := (HB.out.cell (World.block_lt_of_cell? w _ hx117_0)).trans hx117_0
                       replace p117 := eq_true p117
                       replace q117 := eq_true q117
                       go_wp2
                       repeat (go_quiet (fail); try go_wp2)
                       go_meet
                       case rel => exact ⟨_, (((rd l1_1 ((rd_T31 l0 x51_2).f0)) != 2)), (by first | rfl | (simp; done) | (simp [*]; done)), H', ⟨by have := HJ2.out; have := HK2.out; have := HJ28.out; first | omega | exact Nat.le_refl _⟩, ⟨by (with_reducible repeat (first | refine blk_drewN ?_ _ | refine blk_drew ?_ | refine blk_alloc ?_ _)); exact BK107.out⟩, ⟨by repeat (first | (with_reducible first | exact HB.out | apply below_alloc | apply pw_below_drewN | apply below_drew1 | refine below_set ?_ GE107.out) | exact HB.out)⟩⟩
                      ·rw [if_neg c49] at H
                       exact absurd H (by simp)
                     ·rw [if_neg c48] at H
                      exact absurd H (by simp)
                    ·rw [if_neg c47] at H
                     have c47b0 : decide (0 ≤ ((rd_T31 l0 x51_2).f0)) = false := decide_eq_false c47
                     clear c47
                     have H' := Aside0.mk H
                     clear H
                     have hcz51_0 : wc.cell? ⟨gb107, 0, none⟩ = some (.int .i64 a1_0) := (blk_cell BK107.out 0).trans rfl
                     have hcz51_1 : wc.cell? ⟨gb107, 1, none⟩ = some (.slice (some ad110) l1_1.length c1_1) := (blk_cell BK107.out 1).trans rfl
                     have hcz51_2 : wc.cell? ⟨gb107, 2, none⟩ = some (.slice A1_2 l1_2.length c1_2) := (blk_cell BK107.out 2).trans rfl
                     have hcz51_3 : wc.cell? ⟨gb107, 3, none⟩ = some (.slice A1_3 l1_3.length c1_3) := (blk_cell BK107.out 3).trans rfl
                     have hcz51_4 : wc.cell? ⟨gb107, 4, none⟩ = some (.slice A1_4 l1_4.length c1_4) := (blk_cell BK107.out 4).trans rfl
                     have hfz51_0 := blk_frozen BK107.out 0
                     have hfz51_1 := blk_frozen BK107.out 1
                     have hfz51_2 := blk_frozen BK107.out 2
                     have hfz51_3 := blk_frozen BK107.out 3
                     have hfz51_4 := blk_frozen BK107.out 4
                     have p115 : 0 ≤ (x51_2 : Int) := of_decide_eq_true (by first | (with_reducible assumption) | assumption)
                     have q115 : x51_2 < (l1_3.length : Int) := of_decide_eq_true (by first | (with_reducible assumption) | assumption)
                     obtain ⟨ad115, e115, hx115_0⟩ := Kd.at_bool HR1_3.out x51_2 p115 q115
                     (try rw [← Nbq40.out] at hx115_0)
                     (try rw [← Nbq44.out] at hx115_0)
                     cases e115
                     replace hx115_0 := (HB.out.cell (World.block_lt_of_cell? w _ hx115_0)).trans hx115_0
                     replace p115 := eq_true p115
                     replace q115 := eq_true q115
                     have p116 : 0 ≤ (x51_2 : Int) := of_decide_eq_true (by first | (with_reducible assumption) | assumption)
                     have q116 : x51_2 < (l1_4.length : Int) := of_decide_eq_true (by first | (with_reducible assumption) | assumption)
                     obtain ⟨ad116, e116, hx116_0⟩ := Kd.at_bool HR1_4.out x51_2 p116 q116
                     (try rw [← Nbq40.out] at hx116_0)
                     (try rw [← Nbq44.out] at hx116_0)
                     cases e116
                     replace hx116_0 := (HB.out.cell (World.block_lt_of_cell? w _ hx116_0)).trans hx116_0
                     replace p116 := eq_true p116
                     replace q116 := eq_true q116
                     go_wp2
                     repeat (go_quiet (fail); try go_wp2)
                     go_meet
                     case rel => exact ⟨_, (false), (by first | rfl | (simp; done) | (simp [*]; done)), H', ⟨by have := HJ2.out; have := HK2.out; have := HJ28.out; first | omega | exact Nat.le_refl _⟩, ⟨by (with_reducible repeat (first | refine blk_drewN ?_ _ | refine blk_drew ?_ | refine blk_alloc ?_ _)); exact BK107.out⟩, ⟨by repeat (first | (with_reducible first | exact HB.out | apply below_alloc | apply pw_below_drewN | apply below_drew1 | refine below_set ?_ GE107.out) | exact HB.out)⟩⟩
                  ·rw [if_neg c43] at H
                   exact absurd H (by simp)
                ·rw [if_neg c39] at H
                 exact absurd H (by simp)
               ·rw [if_neg c38] at H
                exact absurd H (by simp)
              case rest =>
               clear HC37; (try clear c1); (try clear p1); (try clear q1); (try clear hx1); (try clear c2); (try clear p2); (try clear c3); (try clear c4); (try clear q4); (try clear c6); (try clear p6); (try clear c7); (try clear c7b0); (try clear c7b1); (try clear c7b2); (try clear c8); (try clear c8b0); (try clear c8b1); (try clear c8b2); (try clear c9); (try clear c9b0); (try clear c9b1); (try clear c9b2); (try clear c10); (try clear c10b0); (try clear c10b1); (try clear c10b2); (try clear p11); (try clear q11); (try clear hx11); (try clear c23); (try clear c25); (try clear c25b0); (try clear c26)
               (try clear c26b0); (try clear c27); (try clear c27b0); (try clear c28); (try clear c28b0); (try clear c31); (try clear c32); (try clear c32b0); (try clear c35); (try clear c36); (try clear c36b0); (try clear c36b1); (try clear c38); (try clear c38b0); (try clear c39); (try clear c39b0); (try clear q40); (try clear c41); (try clear c43); (try clear c43b0); (try clear q44); (try clear c45); (try clear c47); (try clear c47b0); (try clear c48); (try clear c48b0); (try clear c49); (try clear c49b0); (try clear hcz13_0); (try clear hcz13_1); (try clear hcz13_2); (try clear hcz13_3); (try clear hcz13_4)
               (try clear hcz15_0); (try clear hcz15_1); (try clear hcz15_2); (try clear hcz15_3); (try clear hcz15_4); (try clear hcz17_0); (try clear hcz17_1); (try clear hcz17_2); (try clear hcz17_3); (try clear hcz17_4); (try clear hcz19_0); (try clear hcz19_1); (try clear hcz19_2); (try clear hcz19_3); (try clear hcz19_4); (try clear hcz21_0); (try clear hcz21_1); (try clear hcz21_2); (try clear hcz21_3); (try clear hcz21_4); (try clear hcz24_0); (try clear hcz24_1); (try clear hcz24_2); (try clear hcz24_3); (try clear hcz24_4); (try clear hcz34_0); (try clear hcz34_1); (try clear hcz34_2)
               (try clear hcz34_3); (try clear hcz34_4); (try clear hcz42_0); (try clear hcz42_1); (try clear hcz42_2); (try clear hcz42_3); (try clear hcz42_4); (try clear hcz46_0); (try clear hcz46_1); (try clear hcz46_2); (try clear hcz46_3); (try clear hcz46_4); (try clear hcz50_0); (try clear hcz50_1); (try clear hcz50_2); (try clear hcz50_3); (try clear hcz50_4); (try clear hcz51_0); (try clear hcz51_1); (try clear hcz51_2); (try clear hcz51_3); (try clear hcz51_4); (try clear hfz13_0); (try clear hfz13_1); (try clear hfz13_2); (try clear hfz13_3); (try clear hfz13_4); (try clear hfz15_0)
               (try clear hfz15_1); (try clear hfz15_2); (try clear hfz15_3); (try clear hfz15_4); (try clear hfz17_0); (try clear hfz17_1); (try clear hfz17_2); (try clear hfz17_3); (try clear hfz17_4); (try clear hfz19_0); (try clear hfz19_1); (try clear hfz19_2); (try clear hfz19_3); (try clear hfz19_4); (try clear hfz21_0); (try clear hfz21_1); (try clear hfz21_2); (try clear hfz21_3); (try clear hfz21_4); (try clear hfz24_0); (try clear hfz24_1); (try clear hfz24_2); (try clear hfz24_3); (try clear hfz24_4); (try clear hfz34_0); (try clear hfz34_1); (try clear hfz34_2); (try clear hfz34_3)
               (try clear hfz34_4); (try clear hfz42_0); (try clear hfz42_1); (try clear hfz42_2); (try clear hfz42_3); (try clear hfz42_4); (try clear hfz46_0); (try clear hfz46_1); (try clear hfz46_2); (try clear hfz46_3); (try clear hfz46_4); (try clear hfz50_0); (try clear hfz50_1); (try clear hfz50_2); (try clear hfz50_3); (try clear hfz50_4); (try clear hfz51_0); (try clear hfz51_1); (try clear hfz51_2); (try clear hfz51_3); (try clear hfz51_4); (try clear hx110_0); (try clear hx111_0); (try clear hx111_1); (try clear hx113_0); (try clear hx115_0); (try clear hx116_0); (try clear hx117_0)
               (try clear p1); (try clear p11); (try clear p110); (try clear p111); (try clear p113); (try clear p115); (try clear p116); (try clear p117); (try clear p2); (try clear q1); (try clear q11); (try clear q110); (try clear q111); (try clear q113); (try clear q115); (try clear q116); (try clear q117)
               obtain ⟨kq, x79_36, rfl, HA, HJ36, BK107, HB⟩ := hcut
               cases kq with
               | zero => exact absurd HA.out (by simp [belts_Valid.j3])
               | succ kj36 =>
                have H := HA.out
                clear HA
                simp only [belts_Valid.j3] at H
                by_cases c52 : x79_36 = true
                ·subst c52
                 have H1 : (some false) = some r := by rw [if_pos rfl] at H; exact H
                 clear H
                 have H := H1
                 clear H1
                 obtain rfl := Option.some.inj H
                 go_wp2
                 repeat (go_quiet (fail); try go_wp2)
                 go_ret
                 exact ⟨by first | rfl | (simp [errW_none, errW_some] <;> rfl) | (simp [*, errW_none, errW_some] <;> rfl), by repeat (first | (with_reducible first | exact HB.out | apply below_alloc | apply pw_below_drewN | apply below_drew1 | refine below_set ?_ GE107.out) | exact HB.out)⟩
                ·replace c52 := Bool.eq_false_iff.mpr c52
                 subst c52
                 have H1 : (belts_Valid.l0 kj36 l0 l1_1 (l1_1.length : Int) (wrap64 (x51_2 + 1)) a1_0 l1_1 l1_2 l1_3 l1_4) = some r := by rw [if_neg (show ¬ (false = true) by decide)] at H; exact H
                 clear H
                 have H := H1
                 clear H1
                 have H' := Aside0.mk H
                 clear H
                 go_wp2
                 repeat (go_quiet (fail); try go_wp2)
                 go_roundg kj36
                 case measure => have := HJ2.out; have := HK2.out; have := HJ28.out; have := HJ36.out; omega
                 case rel => exact ⟨(wrap64 (x51_2 + 1)), (by first | rfl | (simp; done) | (simp [*]; done)), H', ⟨by have := HJ2.out; have := HK2.out; have := HJ28.out; have := HJ36.out; omega⟩, ⟨by (with_reducible repeat (first | refine blk_drewN ?_ _ | refine blk_drew ?_ | refine blk_alloc ?_ _)); exact BK107.out⟩, ⟨by repeat (first | (with_reducible first | exact HB.out | apply below_alloc | apply pw_below_drewN | apply below_drew1 | refine below_set ?_ GE107.out) | exact HB.out)⟩⟩
         ·rw [if_neg c28] at H
          exact absurd H (by simp)
        ·rw [if_neg c27] at H
         exact absurd H (by simp)
       ·rw [if_neg c26] at H
        exact absurd H (by simp)
      ·rw [if_neg c25] at H
       have c25b0 : decide (x51_2 < (l1_1.length : Int)) = false := decide_eq_false c25
       clear c25
       obtain rfl := Option.some.inj H
       go_wp2
       repeat (go_quiet (fail); try go_wp2)
       go_ret
       exact ⟨by first | rfl | (simp [errW_none, errW_some] <;> rfl) | (simp [*, errW_none, errW_some] <;> rfl), by repeat (first | (with_reducible first | exact HB.out | apply below_alloc | apply pw_below_drewN | apply below_drew1 | refine below_set ?_ GE107.out) | exact HB.out)⟩

end Go.Proofs.Ytejmjeanhlkenaa.PB

-- written by wip/myprint.py (the kit's print over hand-proved contracts)
namespace Go.Proofs.Ytejmjeanhlkenaa.PB
open Go.RowKit Go.Proofs.YtejmjeanhlkenaaW.PrintWords Go.Proofs.YtejmjeanhlkenaaW.PrintLast Go.Proofs.YtejmjeanhlkenaaW.PrintMore
attribute [local go_sem] max2_int min2_int max_two min_two max_three min_three max_four min_four   -- for this text's walks alone
set_option linter.unusedVariables false
set_option linter.unusedSimpArgs false

/-! ### belts_checked: function 30 -/
def belts_checked.f (k : Nat) (l0 : List (S31)) (a1_0 : Int) (l1_1 : List Int) (l1_2 : List Int) (l1_3 : List Bool) (l1_4 : List Bool) (a2 : Int) : Option (Int) := (belts_Valid.f k l0 a1_0 l1_1 l1_2 l1_3 l1_4).bind fun t119 => (if t119 = true then ((lists_In.f a2 0 (wrap64 ((l0.length : Int) - 1))).bind fun t120 => (if t120 = true then (some 0) else (some 52))) else (some 6))
theorem belts_checked.mono : ∀ a0 a1 a2 a3 a4 a5 a6 k, LeO (belts_checked.f k a0 a1 a2 a3 a4 a5 a6) (belts_checked.f (k + 1) a0 a1 a2 a3 a4 a5 a6) := by
 intro a0 a1 a2 a3 a4 a5 a6 k
 unfold belts_checked.f
 repeat' first
   | (with_reducible exact belts_Valid.mono _ _ _ _ _ _ _)
   | (with_reducible exact LeO.refl _)
   | (with_reducible exact LeO.none _)
   | (with_reducible refine LeO.ite ?_ ?_)
   | (with_reducible refine LeO.bind ?_ (fun _ => ?_))
   | exact belts_Valid.mono _ _ _ _ _ _ _
   | exact LeO.none _
   | refine LeO.ite ?_ ?_
   | refine LeO.bind ?_ (fun _ => ?_)
set_option maxHeartbeats 8000000 in
set_option maxRecDepth 100000 in
theorem belts_checked.calls (k : Nat) (A0 : Option Addr) (c0 : Nat) (l0 : List (S31)) (a1_0 : Int) (A1_1 : Option Addr) (c1_1 : Nat) (l1_1 : List Int) (A1_2 : Option Addr) (c1_2 : Nat) (l1_2 : List Int) (A1_3 : Option Addr) (c1_3 : Nat) (l1_3 : List Bool) (A1_4 : Option Addr) (c1_4 : Nat) (l1_4 : List Bool) (a2 : Int) (r : Int) (w : World) (hr0 : Kd.C k31 w A0 l0.length l0) (hc0 : l0.length ≤ c0) (hr1_1 : Kd.C (Kd.int .i64) w A1_1 l1_1.length l1_1) (hc1_1 : l1_1.length ≤ c1_1) (hr1_2 : Kd.C (Kd.int .i64) w A1_2 l1_2.length l1_2) (hc1_2 : l1_2.length ≤ c1_2) (hr1_3 : Kd.C Kd.bool w A1_3 l1_3.length l1_3) (hc1_3 : l1_3.length ≤ c1_3) (hr1_4 : Kd.C Kd.bool w A1_4 l1_4.length l1_4) (hc1_4 : l1_4.length ≤ c1_4) (h : belts_checked.f k l0 a1_0 l1_1 l1_2 l1_3 l1_4 a2 = some r) :
  Calls Try.prog 30 #[.slice A0 l0.length c0, .agg #[.int .i64 a1_0, .slice A1_1 l1_1.length c1_1, .slice A1_2 l1_2.length c1_2, .slice A1_3 l1_3.length c1_3, .slice A1_4 l1_4.length c1_4], .int .i64 a2] w fun e w' => e = .returned (.int .i64 r) ∧ Below w.heap.size w w' := by
 have hu34 := Try.underlying34
 have HR0 := Aside0.mk hr0
 have HC0 := Aside0.mk hc0
 clear hr0 hc0
 have HR1_1 := Aside0.mk hr1_1
 have HC1_1 := Aside0.mk hc1_1
 clear hr1_1 hc1_1
 have HR1_2 := Aside0.mk hr1_2
 have HC1_2 := Aside0.mk hc1_2
 clear hr1_2 hc1_2
 have HR1_3 := Aside0.mk hr1_3
 have HC1_3 := Aside0.mk hc1_3
 clear hr1_3 hc1_3
 have HR1_4 := Aside0.mk hr1_4
 have HC1_4 := Aside0.mk hc1_4
 clear hr1_4 hc1_4
 have HB := Aside0.mk (Below.refl w.heap.size w)
 have H : ((belts_Valid.f k l0 a1_0 l1_1 l1_2 l1_3 l1_4).bind fun t119 => (if t119 = true then ((lists_In.f a2 0 (wrap64 ((l0.length : Int) - 1))).bind fun t120 => (if t120 = true then (some 0) else (some 52))) else (some 6))) = some r := h
 clear h
 replace H := Option.bind_eq_some_iff.mp H
 obtain ⟨t119, A40, H⟩ := H
 replace H : (if t119 = true then ((lists_In.f a2 0 (wrap64 ((l0.length : Int) - 1))).bind fun t120 => (if t120 = true then (some 0) else (some 52))) else (some 6)) = some r := H
 have A4 := Aside0.mk A40
 clear A40
 by_cases c5 : t119 = true
 ·subst c5
  have H1 : ((lists_In.f a2 0 (wrap64 ((l0.length : Int) - 1))).bind fun t120 => (if t120 = true then (some 0) else (some 52))) = some r := by rw [if_pos rfl] at H; exact H
  clear H
  have H := H1
  clear H1
  replace H := Option.bind_eq_some_iff.mp H
  obtain ⟨t120, A60, H⟩ := H
  replace H : (if t120 = true then (some 0) else (some 52)) = some r := H
  have A6 := Aside0.mk A60
  clear A60
  by_cases c7 : t120 = true
  ·subst c7
   have H1 : (some 0) = some r := by rw [if_pos rfl] at H; exact H
   clear H
   have H := H1
   clear H1
   obtain rfl := Option.some.inj H
   go_enter Try.func30, Try.ntmps30
   go_wp2_with (first | ((with_reducible refine gate_dst (N := 4) rfl ?_); refine box_event ?hg (N := 4) ?hd (cs := #[.int .i64 a1_0, .slice A1_1 l1_1.length c1_1, .slice A1_2 l1_2.length c1_2, .slice A1_3 l1_3.length c1_3, .slice A1_4 l1_4.length c1_4]) (t := 34) ?hr ?_; (case hd => rfl); (case hg => rfl); (case hr => first | (go_simp; done) | (go_simp; rfl)); intro gb118 hg w8 hbox hb; have n0_ := Aside0.mk (below_step (by repeat (first | (with_reducible first | exact HB.out | apply below_alloc | apply pw_below_drewN | apply below_drew1) | exact HB.out)) hb); have n1_ := Aside0.mk (hbox); have n2_ := Aside0.mk ((by rw [hg]; exact (below_size (by repeat (first | (with_reducible first | exact HB.out | apply below_alloc | apply pw_below_drewN | apply below_drew1) | exact HB.out))) : w.heap.size ≤ gb118)); have n3_ := Aside0.mk ((by rw [hg]; exact (below_size (by repeat (first | (with_reducible first | exact HB.out | apply below_alloc | apply pw_below_drewN | apply below_drew1) | exact HB.out))) : w.heap.size ≤ gb118)); clear HB; have HB := n0_; have BK118 := n1_; have GW118 := n2_; have GE118 := n3_; clear n0_ n1_ n2_ n3_; clear hb hbox hg; have hcz9_0 : w8.cell? ⟨gb118, 0, none⟩ = some (.int .i64 a1_0) := (blk_cell BK118.out 0).trans rfl; have hcz9_1 : w8.cell? ⟨gb118, 1, none⟩ = some (.slice A1_1 l1_1.length c1_1) := (blk_cell BK118.out 1).trans rfl; have hcz9_2 : w8.cell? ⟨gb118, 2, none⟩ = some (.slice A1_2 l1_2.length c1_2) := (blk_cell BK118.out 2).trans rfl; have hcz9_3 : w8.cell? ⟨gb118, 3, none⟩ = some (.slice A1_3 l1_3.length c1_3) := (blk_cell BK118.out 3).trans rfl; have hcz9_4 : w8.cell? ⟨gb118, 4, none⟩ = some (.slice A1_4 l1_4.length c1_4) := (blk_cell BK118.out 4).trans rfl; have hfz9_0 := blk_frozen BK118.out 0; have hfz9_1 := blk_frozen BK118.out 1; have hfz9_2 := blk_frozen BK118.out 2; have hfz9_3 := blk_frozen BK118.out 3; have hfz9_4 := blk_frozen BK118.out 4) | ((with_reducible refine gate_callee (f := 28) rfl ?_); refine goesL_ (some 10) rfl rfl Try.func28 (by kernel_rfl) rfl #[.slice A0 l0.length c0, .agg #[.int .i64 a1_0, .slice A1_1 l1_1.length c1_1, .slice A1_2 l1_2.length c1_2, .slice A1_3 l1_3.length c1_3, .slice A1_4 l1_4.length c1_4]] rfl (by (try simp only [List.map_toArray, List.map_cons, List.map_nil]); first | done | rfl | (simp only [List.length_drop, List.length_take]; rfl)) ?_; (with_reducible refine (belts_Valid.calls k _ _ l0 a1_0 _ _ l1_1 _ _ l1_2 _ _ l1_3 _ _ l1_4 true _ ?side1 ?side2 ?side3 ?side4 ?side5 ?side6 ?side7 ?side8 ?side9 ?side10 A4.out).mono ?_); (case side1 => repeat (first | exact (Kd.C_below HR0.out HB.out) | (with_reducible refine Kd.C_alloc ?_ _) | (with_reducible refine Kd.C_drewN ?_ _) | (with_reducible refine Kd.C_drew ?_))); (case side2 => exact HC0.out); (case side3 => repeat (first | exact (Kd.C_below HR1_1.out HB.out) | (with_reducible refine Kd.C_alloc ?_ _) | (with_reducible refine Kd.C_drewN ?_ _) | (with_reducible refine Kd.C_drew ?_))); (case side4 => exact HC1_1.out); (case side5 => repeat (first | exact (Kd.C_below HR1_2.out HB.out) | (with_reducible refine Kd.C_alloc ?_ _) | (with_reducible refine Kd.C_drewN ?_ _) | (with_reducible refine Kd.C_drew ?_))); (case side6 => exact HC1_2.out); (case side7 => repeat (first | exact (Kd.C_below HR1_3.out HB.out) | (with_reducible refine Kd.C_alloc ?_ _) | (with_reducible refine Kd.C_drewN ?_ _) | (with_reducible refine Kd.C_drew ?_))); (case side8 => exact HC1_3.out); (case side9 => repeat (first | exact (Kd.C_below HR1_4.out HB.out) | (with_reducible refine Kd.C_alloc ?_ _) | (with_reducible refine Kd.C_drewN ?_ _) | (with_reducible refine Kd.C_drew ?_))); (case side10 => exact HC1_4.out); rintro e w10 ⟨rfl, hb⟩; refine ⟨_, rfl, ?_⟩; have n0_ := Aside0.mk (blk_below (g := gb118) (o := .cells #[.int .i64 a1_0, .slice A1_1 l1_1.length c1_1, .slice A1_2 l1_2.length c1_2, .slice A1_3 l1_3.length c1_3, .slice A1_4 l1_4.length c1_4] 34 (0, 0)) (by (with_reducible repeat (first | refine blk_drewN ?_ _ | refine blk_drew ?_ | refine blk_alloc ?_ _)); exact BK118.out) hb); have n1_ := Aside0.mk (below_step (by repeat (first | (with_reducible first | exact HB.out | apply below_alloc | apply pw_below_drewN | apply below_drew1 | refine below_set ?_ GE118.out) | exact HB.out)) hb); clear BK118; clear HB; have BK118 := n0_; have HB := n1_; clear n0_ n1_; (try clear hb); (try clear hb2); (try clear hk); (try clear hi)) | ((with_reducible refine gate_callee (f := 33) rfl ?_); refine goesL_ (some 17) rfl rfl Try.func33 (by kernel_rfl) rfl #[.int .i64 a2, .int .i64 0, .int .i64 (wrap64 ((l0.length : Int) - 1))] rfl (by (try simp only [List.map_toArray, List.map_cons, List.map_nil]); first | done | rfl | (simp only [List.length_drop, List.length_take]; rfl)) ?_; (with_reducible refine (lists_In.calls a2 0 (wrap64 ((l0.length : Int) - 1)) true _ A6.out).mono ?_); rintro e w' ⟨rfl, ⟨nd, rfl⟩⟩; refine ⟨_, rfl, ?_⟩))
   go_ret
   exact ⟨by first | rfl | (simp [errW_none, errW_some] <;> rfl) | (simp [*, errW_none, errW_some] <;> rfl), by repeat (first | (with_reducible first | exact HB.out | apply below_alloc | apply pw_below_drewN | apply below_drew1 | refine below_set ?_ GE118.out) | exact HB.out)⟩
  ·replace c7 := Bool.eq_false_iff.mpr c7
   subst c7
   have H1 : (some 52) = some r := by rw [if_neg (show ¬ (false = true) by decide)] at H; exact H
   clear H
   have H := H1
   clear H1
   obtain rfl := Option.some.inj H
   go_enter Try.func30, Try.ntmps30
   go_wp2_with (first | ((with_reducible refine gate_dst (N := 4) rfl ?_); refine box_event ?hg (N := 4) ?hd (cs := #[.int .i64 a1_0, .slice A1_1 l1_1.length c1_1, .slice A1_2 l1_2.length c1_2, .slice A1_3 l1_3.length c1_3, .slice A1_4 l1_4.length c1_4]) (t := 34) ?hr ?_; (case hd => rfl); (case hg => rfl); (case hr => first | (go_simp; done) | (go_simp; rfl)); intro gb118 hg w11 hbox hb; have n0_ := Aside0.mk (below_step (by repeat (first | (with_reducible first | exact HB.out | apply below_alloc | apply pw_below_drewN | apply below_drew1) | exact HB.out)) hb); have n1_ := Aside0.mk (hbox); have n2_ := Aside0.mk ((by rw [hg]; exact (below_size (by repeat (first | (with_reducible first | exact HB.out | apply below_alloc | apply pw_below_drewN | apply below_drew1) | exact HB.out))) : w.heap.size ≤ gb118)); have n3_ := Aside0.mk ((by rw [hg]; exact (below_size (by repeat (first | (with_reducible first | exact HB.out | apply below_alloc | apply pw_below_drewN | apply below_drew1) | exact HB.out))) : w.heap.size ≤ gb118)); clear HB; have HB := n0_; have BK118 := n1_; have GW118 := n2_; have GE118 := n3_; clear n0_ n1_ n2_ n3_; clear hb hbox hg; have hcz12_0 : w11.cell? ⟨gb118, 0, none⟩ = some (.int .i64 a1_0) := (blk_cell BK118.out 0).trans rfl; have hcz12_1 : w11.cell? ⟨gb118, 1, none⟩ = some (.slice A1_1 l1_1.length c1_1) := (blk_cell BK118.out 1).trans rfl; have hcz12_2 : w11.cell? ⟨gb118, 2, none⟩ = some (.slice A1_2 l1_2.length c1_2) := (blk_cell BK118.out 2).trans rfl; have hcz12_3 : w11.cell? ⟨gb118, 3, none⟩ = some (.slice A1_3 l1_3.length c1_3) := (blk_cell BK118.out 3).trans rfl; have hcz12_4 : w11.cell? ⟨gb118, 4, none⟩ = some (.slice A1_4 l1_4.length c1_4) := (blk_cell BK118.out 4).trans rfl; have hfz12_0 := blk_frozen BK118.out 0; have hfz12_1 := blk_frozen BK118.out 1; have hfz12_2 := blk_frozen BK118.out 2; have hfz12_3 := blk_frozen BK118.out 3; have hfz12_4 := blk_frozen BK118.out 4) | ((with_reducible refine gate_callee (f := 28) rfl ?_); refine goesL_ (some 10) rfl rfl Try.func28 (by kernel_rfl) rfl #[.slice A0 l0.length c0, .agg #[.int .i64 a1_0, .slice A1_1 l1_1.length c1_1, .slice A1_2 l1_2.length c1_2, .slice A1_3 l1_3.length c1_3, .slice A1_4 l1_4.length c1_4]] rfl (by (try simp only [List.map_toArray, List.map_cons, List.map_nil]); first | done | rfl | (simp only [List.length_drop, List.length_take]; rfl)) ?_; (with_reducible refine (belts_Valid.calls k _ _ l0 a1_0 _ _ l1_1 _ _ l1_2 _ _ l1_3 _ _ l1_4 true _ ?side1 ?side2 ?side3 ?side4 ?side5 ?side6 ?side7 ?side8 ?side9 ?side10 A4.out).mono ?_); (case side1 => repeat (first | exact (Kd.C_below HR0.out HB.out) | (with_reducible refine Kd.C_alloc ?_ _) | (with_reducible refine Kd.C_drewN ?_ _) | (with_reducible refine Kd.C_drew ?_))); (case side2 => exact HC0.out); (case side3 => repeat (first | exact (Kd.C_below HR1_1.out HB.out) | (with_reducible refine Kd.C_alloc ?_ _) | (with_reducible refine Kd.C_drewN ?_ _) | (with_reducible refine Kd.C_drew ?_))); (case side4 => exact HC1_1.out); (case side5 => repeat (first | exact (Kd.C_below HR1_2.out HB.out) | (with_reducible refine Kd.C_alloc ?_ _) | (with_reducible refine Kd.C_drewN ?_ _) | (with_reducible refine Kd.C_drew ?_))); (case side6 => exact HC1_2.out); (case side7 => repeat (first | exact (Kd.C_below HR1_3.out HB.out) | (with_reducible refine Kd.C_alloc ?_ _) | (with_reducible refine Kd.C_drewN ?_ _) | (with_reducible refine Kd.C_drew ?_))); (case side8 => exact HC1_3.out); (case side9 => repeat (first | exact (Kd.C_below HR1_4.out HB.out) | (with_reducible refine Kd.C_alloc ?_ _) | (with_reducible refine Kd.C_drewN ?_ _) | (with_reducible refine Kd.C_drew ?_))); (case side10 => exact HC1_4.out); rintro e w13 ⟨rfl, hb⟩; refine ⟨_, rfl, ?_⟩; have n0_ := Aside0.mk (blk_below (g := gb118) (o := .cells #[.int .i64 a1_0, .slice A1_1 l1_1.length c1_1, .slice A1_2 l1_2.length c1_2, .slice A1_3 l1_3.length c1_3, .slice A1_4 l1_4.length c1_4] 34 (0, 0)) (by (with_reducible repeat (first | refine blk_drewN ?_ _ | refine blk_drew ?_ | refine blk_alloc ?_ _)); exact BK118.out) hb); have n1_ := Aside0.mk (below_step (by repeat (first | (with_reducible first | exact HB.out | apply below_alloc | apply pw_below_drewN | apply below_drew1 | refine below_set ?_ GE118.out) | exact HB.out)) hb); clear BK118; clear HB; have BK118 := n0_; have HB := n1_; clear n0_ n1_; (try clear hb); (try clear hb2); (try clear hk); (try clear hi)) | ((with_reducible refine gate_callee (f := 33) rfl ?_); refine goesL_ (some 17) rfl rfl Try.func33 (by kernel_rfl) rfl #[.int .i64 a2, .int .i64 0, .int .i64 (wrap64 ((l0.length : Int) - 1))] rfl (by (try simp only [List.map_toArray, List.map_cons, List.map_nil]); first | done | rfl | (simp only [List.length_drop, List.length_take]; rfl)) ?_; (with_reducible refine (lists_In.calls a2 0 (wrap64 ((l0.length : Int) - 1)) false _ A6.out).mono ?_); rintro e w' ⟨rfl, ⟨nd, rfl⟩⟩; refine ⟨_, rfl, ?_⟩))
   go_ret
   exact ⟨by first | rfl | (simp [errW_none, errW_some] <;> rfl) | (simp [*, errW_none, errW_some] <;> rfl), by repeat (first | (with_reducible first | exact HB.out | apply below_alloc | apply pw_below_drewN | apply below_drew1 | refine below_set ?_ GE118.out) | exact HB.out)⟩
 ·replace c5 := Bool.eq_false_iff.mpr c5
  subst c5
  have H1 : (some 6) = some r := by rw [if_neg (show ¬ (false = true) by decide)] at H; exact H
  clear H
  have H := H1
  clear H1
  obtain rfl := Option.some.inj H
  go_enter Try.func30, Try.ntmps30
  go_wp2_with (first | ((with_reducible refine gate_dst (N := 4) rfl ?_); refine box_event ?hg (N := 4) ?hd (cs := #[.int .i64 a1_0, .slice A1_1 l1_1.length c1_1, .slice A1_2 l1_2.length c1_2, .slice A1_3 l1_3.length c1_3, .slice A1_4 l1_4.length c1_4]) (t := 34) ?hr ?_; (case hd => rfl); (case hg => rfl); (case hr => first | (go_simp; done) | (go_simp; rfl)); intro gb118 hg w14 hbox hb; have n0_ := Aside0.mk (below_step (by repeat (first | (with_reducible first | exact HB.out | apply below_alloc | apply pw_below_drewN | apply below_drew1) | exact HB.out)) hb); have n1_ := Aside0.mk (hbox); have n2_ := Aside0.mk ((by rw [hg]; exact (below_size (by repeat (first | (with_reducible first | exact HB.out | apply below_alloc | apply pw_below_drewN | apply below_drew1) | exact HB.out))) : w.heap.size ≤ gb118)); have n3_ := Aside0.mk ((by rw [hg]; exact (below_size (by repeat (first | (with_reducible first | exact HB.out | apply below_alloc | apply pw_below_drewN | apply below_drew1) | exact HB.out))) : w.heap.size ≤ gb118)); clear HB; have HB := n0_; have BK118 := n1_; have GW118 := n2_; have GE118 := n3_; clear n0_ n1_ n2_ n3_; clear hb hbox hg; have hcz15_0 : w14.cell? ⟨gb118, 0, none⟩ = some (.int .i64 a1_0) := (blk_cell BK118.out 0).trans rfl; have hcz15_1 : w14.cell? ⟨gb118, 1, none⟩ = some (.slice A1_1 l1_1.length c1_1) := (blk_cell BK118.out 1).trans rfl; have hcz15_2 : w14.cell? ⟨gb118, 2, none⟩ = some (.slice A1_2 l1_2.length c1_2) := (blk_cell BK118.out 2).trans rfl; have hcz15_3 : w14.cell? ⟨gb118, 3, none⟩ = some (.slice A1_3 l1_3.length c1_3) := (blk_cell BK118.out 3).trans rfl; have hcz15_4 : w14.cell? ⟨gb118, 4, none⟩ = some (.slice A1_4 l1_4.length c1_4) := (blk_cell BK118.out 4).trans rfl; have hfz15_0 := blk_frozen BK118.out 0; have hfz15_1 := blk_frozen BK118.out 1; have hfz15_2 := blk_frozen BK118.out 2; have hfz15_3 := blk_frozen BK118.out 3; have hfz15_4 := blk_frozen BK118.out 4) | ((with_reducible refine gate_callee (f := 28) rfl ?_); refine goesL_ (some 10) rfl rfl Try.func28 (by kernel_rfl) rfl #[.slice A0 l0.length c0, .agg #[.int .i64 a1_0, .slice A1_1 l1_1.length c1_1, .slice A1_2 l1_2.length c1_2, .slice A1_3 l1_3.length c1_3, .slice A1_4 l1_4.length c1_4]] rfl (by (try simp only [List.map_toArray, List.map_cons, List.map_nil]); first | done | rfl | (simp only [List.length_drop, List.length_take]; rfl)) ?_; (with_reducible refine (belts_Valid.calls k _ _ l0 a1_0 _ _ l1_1 _ _ l1_2 _ _ l1_3 _ _ l1_4 false _ ?side1 ?side2 ?side3 ?side4 ?side5 ?side6 ?side7 ?side8 ?side9 ?side10 A4.out).mono ?_); (case side1 => repeat (first | exact (Kd.C_below HR0.out HB.out) | (with_reducible refine Kd.C_alloc ?_ _) | (with_reducible refine Kd.C_drewN ?_ _) | (with_reducible refine Kd.C_drew ?_))); (case side2 => exact HC0.out); (case side3 => repeat (first | exact (Kd.C_below HR1_1.out HB.out) | (with_reducible refine Kd.C_alloc ?_ _) | (with_reducible refine Kd.C_drewN ?_ _) | (with_reducible refine Kd.C_drew ?_))); (case side4 => exact HC1_1.out); (case side5 => repeat (first | exact (Kd.C_below HR1_2.out HB.out) | (with_reducible refine Kd.C_alloc ?_ _) | (with_reducible refine Kd.C_drewN ?_ _) | (with_reducible refine Kd.C_drew ?_))); (case side6 => exact HC1_2.out); (case side7 => repeat (first | exact (Kd.C_below HR1_3.out HB.out) | (with_reducible refine Kd.C_alloc ?_ _) | (with_reducible refine Kd.C_drewN ?_ _) | (with_reducible refine Kd.C_drew ?_))); (case side8 => exact HC1_3.out); (case side9 => repeat (first | exact (Kd.C_below HR1_4.out HB.out) | (with_reducible refine Kd.C_alloc ?_ _) | (with_reducible refine Kd.C_drewN ?_ _) | (with_reducible refine Kd.C_drew ?_))); (case side10 => exact HC1_4.out); rintro e w16 ⟨rfl, hb⟩; refine ⟨_, rfl, ?_⟩; have n0_ := Aside0.mk (blk_below (g := gb118) (o := .cells #[.int .i64 a1_0, .slice A1_1 l1_1.length c1_1, .slice A1_2 l1_2.length c1_2, .slice A1_3 l1_3.length c1_3, .slice A1_4 l1_4.length c1_4] 34 (0, 0)) (by (with_reducible repeat (first | refine blk_drewN ?_ _ | refine blk_drew ?_ | refine blk_alloc ?_ _)); exact BK118.out) hb); have n1_ := Aside0.mk (below_step (by repeat (first | (with_reducible first | exact HB.out | apply below_alloc | apply pw_below_drewN | apply below_drew1 | refine below_set ?_ GE118.out) | exact HB.out)) hb); clear BK118; clear HB; have BK118 := n0_; have HB := n1_; clear n0_ n1_; (try clear hb); (try clear hb2); (try clear hk); (try clear hi)))
  go_ret
  exact ⟨by first | rfl | (simp [errW_none, errW_some] <;> rfl) | (simp [*, errW_none, errW_some] <;> rfl), by repeat (first | (with_reducible first | exact HB.out | apply below_alloc | apply pw_below_drewN | apply below_drew1 | refine below_set ?_ GE118.out) | exact HB.out)⟩

-- NOT PRINTED: function 54 (slices_Clone_int_int)

-- NOT PRINTED: function 55 (slices_Clone_bool_bool)

-- NOT PRINTED: function 31 (belts_done)

-- NOT PRINTED: function 37 (lists_Where)

end Go.Proofs.Ytejmjeanhlkenaa.PB
