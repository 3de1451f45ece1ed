import Derived.Test.YtejmjeanhlkenaaCK
/- The reference's Stop, Pull, Restore and Hold, walked. -/
namespace Go.Proofs.Ytejmjeanhlkenaa.HandA
open Go.RowKit Go.Proofs.Ytejmjeanhlkenaa.PB Go.Proofs.YtejmjeanhlkenaaW.PrintWords Go.Proofs.YtejmjeanhlkenaaW.PrintLast Go.Proofs.YtejmjeanhlkenaaW.PrintMore
set_option linter.unusedVariables false
set_option linter.unusedSimpArgs false
theorem give_madeM {w W : World} {b B' : Nat} {v1 v2 v3 v4 a0 a1 a2 a3 a4 : Value} {y : Ln} {err : Int} (hm : Made W b v1 v2 v3 v4 y) (hbase : w.heap.size ≤ b) (hY : W.heap[B']? = some (.cells #[a0, a1, a2, a3, a4] 34 (0, 0))) (hB' : w.heap.size ≤ B') (hb : Below w.heap.size w W) :
    GivesM w y err (.returned (.tuple #[.agg #[.int .i64 y.tm, v1, v2, v3, v4], .int .i64 err])) (((((W.setCell ⟨B', 0, none⟩ (.int .i64 y.tm)).setCell ⟨B', 1, none⟩ v1).setCell ⟨B', 2, none⟩ v2).setCell ⟨B', 3, none⟩ v3).setCell ⟨B', 4, none⟩ v4) := by
  have SS := same5 W B' (.int .i64 y.tm) v1 v2 v3 v4
  exact ⟨v1, v2, v3, v4, rfl, ⟨R_sameT (Kd.R_lower hm.r1 hbase) SS hY (by decide), R_sameT (Kd.R_lower hm.r2 hbase) SS hY (by decide), R_sameT (Kd.R_lower hm.r3 hbase) SS hY (by decide), R_sameT (Kd.R_lower hm.r4 hbase) SS hY (by decide)⟩, below_same hb SS hB'⟩

set_option maxHeartbeats 4000000 in
set_option maxRecDepth 100000 in
theorem rstopG_calls (l : List S31) (A : Option Addr) (c : Nat) (x : Ln) (a : La) (i : Int) (w : World) (hl : Kd.C k31 w A l.length l) (hc : l.length ≤ c) (hfit : Fit l.length) (hx : LC w a x) (hz : Lz x) :
    Calls Try.prog 47 #[.slice A l.length c, .agg #[.int .i64 x.tm, .slice a.A1 x.st.length a.c1, .slice a.A2 x.si.length a.c2, .slice a.A3 x.pu.length a.c3, .slice a.A4 x.he.length a.c4], .int .i64 i] w (GivesM w (stopG l x i).1 (stopG l x i).2) := by
  have HL := Aside0.mk hl
  have HC := Aside0.mk hc
  have HX := Aside0.mk hx
  have HF := Aside0.mk hfit
  have HZ := Aside0.mk hz
  have hu34 := Try.underlying34
  clear hl hc hfit hx hz
  obtain ⟨E, hE⟩ : ∃ E, chk l x i = E := ⟨_, rfl⟩
  by_cases h0 : E = 0
  · subst h0
    obtain ⟨hv, i0, i1⟩ := chk_zero hE
    have HE := Aside0.mk hE
    have HV := Aside0.mk hv
    have hS : stopG l x i = (stopF l i x, 0) := by unfold stopG; rw [if_neg (by rw [hE]; simp)]
    rw [hS]
    clear hv hE hS
    go_enter Try.func47, Try.ntmps47
    go_wp2_with (first | (go_at_call 57; (with_reducible refine (rcheck_calls l A c x a i _ (Kd.C_below HL.out (by repeat (first | exact Below.refl _ _ | apply below_alloc))) HC.out HF.out (HX.out.below (by repeat (first | exact Below.refl _ _ | apply below_alloc)))).mono ?_); rintro e w1 ⟨rfl, hb1⟩; rw [HE.out]; obtain ⟨hc1, hf1⟩ := bcell hb1; have q0 := fun o => hc1 (w.heap.size) o (by simp only [World.size_alloc]; omega); have q1 := fun o => hc1 (w.heap.size + 1) o (by simp only [World.size_alloc]; omega); have p1 := fun o => hf1 (w.heap.size + 1) o (by simp only [World.size_alloc]; omega); have HX1 := Aside0.mk (blk_below (blk_alloc (blk_new w _) _) hb1); have HY := Aside0.mk (blk_below (blk2 w _ _) hb1); have HB1 := Aside0.mk (below_step (w := w) (by repeat (first | exact Below.refl _ _ | apply below_alloc)) hb1); clear hc1 hf1 hb1) | (go_at_call 58; (with_reducible refine (rstop_calls l A c x a i _ (Kd.C_below HL.out HB1.out) HC.out HV.out.snd (HX.out.below HB1.out) HV.out.len i0 i1).mono ?_); rintro e w2 ⟨v1, v2, v3, v4, rfl, hm, hb2⟩; have hx2 := blk_below HX1.out hb2; have hy2 := blk_below HY.out hb2; obtain ⟨g1, n1, y1, rfl⟩ := R_sl hm.r1; obtain ⟨g2, n2, y2, rfl⟩ := R_sl hm.r2; obtain ⟨g3, n3, y3, rfl⟩ := R_sl hm.r3; obtain ⟨g4, n4, y4, rfl⟩ := R_sl hm.r4; have z0 : w2.cell? ⟨w.heap.size + 1, 0, none⟩ = some (Value.int IntKind.i64 0) := (blk_cell hy2 0).trans rfl; have f0 := blk_frozen hy2 0; have z1 : w2.cell? ⟨w.heap.size + 1, 1, none⟩ = some (Value.slice none 0 0) := (blk_cell hy2 1).trans rfl; have f1 := blk_frozen hy2 1; have z2 : w2.cell? ⟨w.heap.size + 1, 2, none⟩ = some (Value.slice none 0 0) := (blk_cell hy2 2).trans rfl; have f2 := blk_frozen hy2 2; have z3 : w2.cell? ⟨w.heap.size + 1, 3, none⟩ = some (Value.slice none 0 0) := (blk_cell hy2 3).trans rfl; have f3 := blk_frozen hy2 3; have z4 : w2.cell? ⟨w.heap.size + 1, 4, none⟩ = some (Value.slice none 0 0) := (blk_cell hy2 4).trans rfl; have f4 := blk_frozen hy2 4; have c0 := (blk_cell hx2 0).trans rfl; have d0 := blk_frozen hx2 0; have c1 := (blk_cell hx2 1).trans rfl; have d1 := blk_frozen hx2 1; have c2 := (blk_cell hx2 2).trans rfl; have d2 := blk_frozen hx2 2; have c3 := (blk_cell hx2 3).trans rfl; have d3 := blk_frozen hx2 3; have c4 := (blk_cell hx2 4).trans rfl; have d4 := blk_frozen hx2 4; have HM := Aside0.mk hm; have HB2 := Aside0.mk (below_step HB1.out hb2); have HX2 := Aside0.mk hx2; have HY2 := Aside0.mk hy2; clear hm hb2 hx2 hy2))
    refine bodyPost_ret (results_ct rfl _ _ (w.heap.size + 1) 34 #[.int .i64 (stopF l i x).tm, .slice g1 n1 y1, .slice g2 n2 y2, .slice g3 n3 y3, .slice g4 n4 y4] (0, 0) _ rfl (set5 HY2.out _ _ _ _ _) hu34 rfl (by kernel_rfl)) rfl ?_
    exact give_madeM (y := stopF l i x) HM.out HB1.out.size HY2.out (by omega) HB2.out
  · have hS : stopG l x i = (x, E) := by unfold stopG; rw [if_pos (by rw [hE]; exact h0), hE]
    rw [hS]
    have HE := Aside0.mk hE
    have t0 : (E != 0) = true := by simp [h0]
    clear hS hE h0
    go_enter Try.func47, Try.ntmps47
    go_wp2_with (first | (go_at_call 57; (with_reducible refine (rcheck_calls l A c x a i _ (Kd.C_below HL.out (by repeat (first | exact Below.refl _ _ | apply below_alloc))) HC.out HF.out (HX.out.below (by repeat (first | exact Below.refl _ _ | apply below_alloc)))).mono ?_); rintro e w1 ⟨rfl, hb1⟩; rw [HE.out]; obtain ⟨hc1, hf1⟩ := bcell hb1; have q0 := fun o => hc1 (w.heap.size) o (by simp only [World.size_alloc]; omega); have q1 := fun o => hc1 (w.heap.size + 1) o (by simp only [World.size_alloc]; omega); have p1 := fun o => hf1 (w.heap.size + 1) o (by simp only [World.size_alloc]; omega); have HX1 := Aside0.mk (blk_below (blk_alloc (blk_new w _) _) hb1); have HY := Aside0.mk (blk_below (blk2 w _ _) hb1); have HB1 := Aside0.mk (below_step (w := w) (by repeat (first | exact Below.refl _ _ | apply below_alloc)) hb1); clear hc1 hf1 hb1) | (go_at_call 23; (with_reducible refine (rcopy_calls x a _ (HX.out.below HB1.out) HZ.out).mono ?_); rintro e w2 ⟨v1, v2, v3, v4, rfl, hm, hb2⟩; have hy2 := blk_below HY.out hb2; obtain ⟨g1, n1, y1, rfl⟩ := R_sl hm.r1; obtain ⟨g2, n2, y2, rfl⟩ := R_sl hm.r2; obtain ⟨g3, n3, y3, rfl⟩ := R_sl hm.r3; obtain ⟨g4, n4, y4, rfl⟩ := R_sl hm.r4; have z0 : w2.cell? ⟨w.heap.size + 1, 0, none⟩ = some (Value.int IntKind.i64 0) := (blk_cell hy2 0).trans rfl; have f0 := blk_frozen hy2 0; have z1 : w2.cell? ⟨w.heap.size + 1, 1, none⟩ = some (Value.slice none 0 0) := (blk_cell hy2 1).trans rfl; have f1 := blk_frozen hy2 1; have z2 : w2.cell? ⟨w.heap.size + 1, 2, none⟩ = some (Value.slice none 0 0) := (blk_cell hy2 2).trans rfl; have f2 := blk_frozen hy2 2; have z3 : w2.cell? ⟨w.heap.size + 1, 3, none⟩ = some (Value.slice none 0 0) := (blk_cell hy2 3).trans rfl; have f3 := blk_frozen hy2 3; have z4 : w2.cell? ⟨w.heap.size + 1, 4, none⟩ = some (Value.slice none 0 0) := (blk_cell hy2 4).trans rfl; have f4 := blk_frozen hy2 4; have HM := Aside0.mk hm; have HB2 := Aside0.mk (below_step HB1.out hb2); have HY2 := Aside0.mk hy2; clear hm hb2 hy2))
    refine bodyPost_ret (results_ct rfl _ _ (w.heap.size + 1) 34 #[.int .i64 x.tm, .slice g1 n1 y1, .slice g2 n2 y2, .slice g3 n3 y3, .slice g4 n4 y4] (0, 0) _ rfl (set5 HY2.out _ _ _ _ _) hu34 rfl (by kernel_rfl)) rfl ?_
    exact give_madeM (y := x) HM.out HB1.out.size HY2.out (by omega) HB2.out
set_option maxHeartbeats 4000000 in
set_option maxRecDepth 100000 in
theorem rpullG_calls (l : List S31) (A : Option Addr) (c : Nat) (x : Ln) (a : La) (i : Int) (w : World) (hl : Kd.C k31 w A l.length l) (hc : l.length ≤ c) (hfit : Fit l.length) (hx : LC w a x) (hz : Lz x) :
    Calls Try.prog 48 #[.slice A l.length c, .agg #[.int .i64 x.tm, .slice a.A1 x.st.length a.c1, .slice a.A2 x.si.length a.c2, .slice a.A3 x.pu.length a.c3, .slice a.A4 x.he.length a.c4], .int .i64 i] w (GivesM w (pullG l x i).1 (pullG l x i).2) := by
  have HL := Aside0.mk hl
  have HC := Aside0.mk hc
  have HX := Aside0.mk hx
  have HF := Aside0.mk hfit
  have HZ := Aside0.mk hz
  have hu34 := Try.underlying34
  clear hl hc hfit hx hz
  obtain ⟨E, hE⟩ : ∃ E, chk l x i = E := ⟨_, rfl⟩
  by_cases h0 : E = 0
  · subst h0
    obtain ⟨hv, i0, i1⟩ := chk_zero hE
    have HE := Aside0.mk hE
    have HV := Aside0.mk hv
    have hS : pullG l x i = (pullF l i x, 0) := by unfold pullG; rw [if_neg (by rw [hE]; simp)]
    rw [hS]
    clear hv hE hS
    go_enter Try.func48, Try.ntmps48
    go_upto_region 5 with (first | (go_at_call 57; (with_reducible refine (rcheck_calls l A c x a i _ (Kd.C_below HL.out (by repeat (first | exact Below.refl _ _ | apply below_alloc))) HC.out HF.out (HX.out.below (by repeat (first | exact Below.refl _ _ | apply below_alloc)))).mono ?_); rintro e w1 ⟨rfl, hb1⟩; rw [HE.out]; obtain ⟨hc1, hf1⟩ := bcell hb1; have q0 := fun o => hc1 (w.heap.size) o (by simp only [World.size_alloc]; omega); have q1 := fun o => hc1 (w.heap.size + 1) o (by simp only [World.size_alloc]; omega); have p1 := fun o => hf1 (w.heap.size + 1) o (by simp only [World.size_alloc]; omega); have HX1 := Aside0.mk (blk_below (blk_alloc (blk_new w _) _) hb1); have HY := Aside0.mk (blk_below (blk2 w _ _) hb1); have HB1 := Aside0.mk (below_step (w := w) (by repeat (first | exact Below.refl _ _ | apply below_alloc)) hb1); clear hc1 hf1 hb1) | (go_at_call 58; (with_reducible refine (rstop_calls l A c x a i _ (Kd.C_below HL.out HB1.out) HC.out HV.out.snd (HX.out.below HB1.out) HV.out.len i0 i1).mono ?_); rintro e w2 ⟨v1, v2, v3, v4, rfl, hm, hb2⟩; have hx2 := blk_below HX1.out hb2; have hy2 := blk_below HY.out hb2; obtain ⟨g1, n1, y1, rfl⟩ := R_sl hm.r1; obtain ⟨g2, n2, y2, rfl⟩ := R_sl hm.r2; obtain ⟨g3, n3, y3, rfl⟩ := R_sl hm.r3; obtain ⟨g4, n4, y4, rfl⟩ := R_sl hm.r4; have z0 : w2.cell? ⟨w.heap.size + 1, 0, none⟩ = some (Value.int IntKind.i64 0) := (blk_cell hy2 0).trans rfl; have f0 := blk_frozen hy2 0; have z1 : w2.cell? ⟨w.heap.size + 1, 1, none⟩ = some (Value.slice none 0 0) := (blk_cell hy2 1).trans rfl; have f1 := blk_frozen hy2 1; have z2 : w2.cell? ⟨w.heap.size + 1, 2, none⟩ = some (Value.slice none 0 0) := (blk_cell hy2 2).trans rfl; have f2 := blk_frozen hy2 2; have z3 : w2.cell? ⟨w.heap.size + 1, 3, none⟩ = some (Value.slice none 0 0) := (blk_cell hy2 3).trans rfl; have f3 := blk_frozen hy2 3; have z4 : w2.cell? ⟨w.heap.size + 1, 4, none⟩ = some (Value.slice none 0 0) := (blk_cell hy2 4).trans rfl; have f4 := blk_frozen hy2 4; have c0 := (blk_cell hx2 0).trans rfl; have d0 := blk_frozen hx2 0; have c1 := (blk_cell hx2 1).trans rfl; have d1 := blk_frozen hx2 1; have c2 := (blk_cell hx2 2).trans rfl; have d2 := blk_frozen hx2 2; have c3 := (blk_cell hx2 3).trans rfl; have d3 := blk_frozen hx2 3; have c4 := (blk_cell hx2 4).trans rfl; have d4 := blk_frozen hx2 4; have HM := Aside0.mk hm; have HB2 := Aside0.mk (below_step HB1.out hb2); have HX2 := Aside0.mk hx2; have HY2 := Aside0.mk hy2; clear hm hb2 hx2 hy2))
    have ho := own_made HM.out HX2.out (base := w.heap.size) HB1.out.size (Nat.le_refl _)
    have SS := same5 w2 w.heap.size (.int .i64 (stopF l i x).tm) (.slice g1 n1 y1) (.slice g2 n2 y2) (.slice g3 n3 y3) (.slice g4 n4 y4)
    have hb := below_same HB2.out SS (Nat.le_refl _)
    have hY := blk_same HY2.out SS (by omega)
    clear z0 z1 z2 z3 z4 f0 f1 f2 f3 f4 c0 c1 c2 c3 c4 d0 d1 d2 d3 d4 q0 q1 p1 HM HB2 HX2 HY2 SS
    generalize (((((w2.setCell ⟨w.heap.size, 0, none⟩ (.int .i64 (stopF l i x).tm)).setCell ⟨w.heap.size, 1, none⟩ (.slice g1 n1 y1)).setCell ⟨w.heap.size, 2, none⟩ (.slice g2 n2 y2)).setCell ⟨w.heap.size, 3, none⟩ (.slice g3 n3 y3)).setCell ⟨w.heap.size, 4, none⟩ (.slice g4 n4 y4)) = W3 at ho hb hY ⊢
    obtain ⟨a1, b1, a2, b2, a3, b3, a4, b4, e1, e2, e3, e4⟩ := ho.form (stop_lens (l := l) (i := i) (n := l.length) HV.out.len) (by have := HV.out.snd.len; omega)
    cases e1; cases e2; cases e3; cases e4
    obtain ⟨_, _, _, _, n3, n4, _, _, p3, p4, _, _, ⟨cs3, hc3⟩, ⟨cs4, hc4⟩⟩ := ho.facts
    obtain ⟨E, F⟩ := ho.cell3 i i0 i1
    have m3 : a3 ≠ w.heap.size + 1 := blk_ne hc3 hY (by decide)
    have k0 : W3.cell? ⟨w.heap.size, 0, none⟩ = some (.int .i64 (stopF l i x).tm) := (blk_cell ho.box 0).trans rfl; have k1 : W3.cell? ⟨w.heap.size, 1, none⟩ = some (.slice (some ⟨a1, 0, none⟩) l.length y1) := (blk_cell ho.box 1).trans rfl; have k2 : W3.cell? ⟨w.heap.size, 2, none⟩ = some (.slice (some ⟨a2, 0, none⟩) l.length y2) := (blk_cell ho.box 2).trans rfl; have k3 : W3.cell? ⟨w.heap.size, 3, none⟩ = some (.slice (some ⟨a3, 0, none⟩) l.length y3) := (blk_cell ho.box 3).trans rfl; have k4 : W3.cell? ⟨w.heap.size, 4, none⟩ = some (.slice (some ⟨a4, 0, none⟩) l.length y4) := (blk_cell ho.box 4).trans rfl
    have z0 : W3.cell? ⟨w.heap.size + 1, 0, none⟩ = some (Value.int IntKind.i64 0) := (blk_cell hY 0).trans rfl; have f0 := blk_frozen hY 0; have z1 : W3.cell? ⟨w.heap.size + 1, 1, none⟩ = some (Value.slice none 0 0) := (blk_cell hY 1).trans rfl; have f1 := blk_frozen hY 1; have z2 : W3.cell? ⟨w.heap.size + 1, 2, none⟩ = some (Value.slice none 0 0) := (blk_cell hY 2).trans rfl; have f2 := blk_frozen hY 2; have z3 : W3.cell? ⟨w.heap.size + 1, 3, none⟩ = some (Value.slice none 0 0) := (blk_cell hY 3).trans rfl; have f3 := blk_frozen hY 3; have z4 : W3.cell? ⟨w.heap.size + 1, 4, none⟩ = some (Value.slice none 0 0) := (blk_cell hY 4).trans rfl; have f4 := blk_frozen hY 4
    have HO := Aside0.mk ho
    have HB := Aside0.mk hb
    have HY3 := Aside0.mk hY
    have HC3 := Aside0.mk hc3
    clear ho hb hY hc3 hc4
    go_wp2_with fail
    have o2 := HO.out.setPu HO.out.len3 n3 HC3.out i true
    have hy5 := blk_far (p := ⟨a3, i.toNat, none⟩) HY3.out (Ne.symm m3) (.bool true)
    have bl := below_set (j := i.toNat) (v := .bool true) HB.out p3
    refine bodyPost_ret (results_ct rfl _ _ (w.heap.size + 1) 34 #[.int .i64 (stopF l i x).tm, .slice (some ⟨a1, 0, none⟩) l.length y1, .slice (some ⟨a2, 0, none⟩) l.length y2, .slice (some ⟨a3, 0, none⟩) l.length y3, .slice (some ⟨a4, 0, none⟩) l.length y4] (0, 0) _ rfl (set5 hy5 _ _ _ _ _) hu34 rfl (by kernel_rfl)) rfl ?_
    exact give_own (y := pullF l i x) o2 hy5 (by omega) bl
  · have hS : pullG l x i = (x, E) := by unfold pullG; rw [if_pos (by rw [hE]; exact h0), hE]
    rw [hS]
    have HE := Aside0.mk hE
    have t0 : (E != 0) = true := by simp [h0]
    clear hS hE h0
    go_enter Try.func48, Try.ntmps48
    go_wp2_with (first | (go_at_call 57; (with_reducible refine (rcheck_calls l A c x a i _ (Kd.C_below HL.out (by repeat (first | exact Below.refl _ _ | apply below_alloc))) HC.out HF.out (HX.out.below (by repeat (first | exact Below.refl _ _ | apply below_alloc)))).mono ?_); rintro e w1 ⟨rfl, hb1⟩; rw [HE.out]; obtain ⟨hc1, hf1⟩ := bcell hb1; have q0 := fun o => hc1 (w.heap.size) o (by simp only [World.size_alloc]; omega); have q1 := fun o => hc1 (w.heap.size + 1) o (by simp only [World.size_alloc]; omega); have p1 := fun o => hf1 (w.heap.size + 1) o (by simp only [World.size_alloc]; omega); have HX1 := Aside0.mk (blk_below (blk_alloc (blk_new w _) _) hb1); have HY := Aside0.mk (blk_below (blk2 w _ _) hb1); have HB1 := Aside0.mk (below_step (w := w) (by repeat (first | exact Below.refl _ _ | apply below_alloc)) hb1); clear hc1 hf1 hb1) | (go_at_call 23; (with_reducible refine (rcopy_calls x a _ (HX.out.below HB1.out) HZ.out).mono ?_); rintro e w2 ⟨v1, v2, v3, v4, rfl, hm, hb2⟩; have hy2 := blk_below HY.out hb2; obtain ⟨g1, n1, y1, rfl⟩ := R_sl hm.r1; obtain ⟨g2, n2, y2, rfl⟩ := R_sl hm.r2; obtain ⟨g3, n3, y3, rfl⟩ := R_sl hm.r3; obtain ⟨g4, n4, y4, rfl⟩ := R_sl hm.r4; have z0 : w2.cell? ⟨w.heap.size + 1, 0, none⟩ = some (Value.int IntKind.i64 0) := (blk_cell hy2 0).trans rfl; have f0 := blk_frozen hy2 0; have z1 : w2.cell? ⟨w.heap.size + 1, 1, none⟩ = some (Value.slice none 0 0) := (blk_cell hy2 1).trans rfl; have f1 := blk_frozen hy2 1; have z2 : w2.cell? ⟨w.heap.size + 1, 2, none⟩ = some (Value.slice none 0 0) := (blk_cell hy2 2).trans rfl; have f2 := blk_frozen hy2 2; have z3 : w2.cell? ⟨w.heap.size + 1, 3, none⟩ = some (Value.slice none 0 0) := (blk_cell hy2 3).trans rfl; have f3 := blk_frozen hy2 3; have z4 : w2.cell? ⟨w.heap.size + 1, 4, none⟩ = some (Value.slice none 0 0) := (blk_cell hy2 4).trans rfl; have f4 := blk_frozen hy2 4; have HM := Aside0.mk hm; have HB2 := Aside0.mk (below_step HB1.out hb2); have HY2 := Aside0.mk hy2; clear hm hb2 hy2))
    refine bodyPost_ret (results_ct rfl _ _ (w.heap.size + 1) 34 #[.int .i64 x.tm, .slice g1 n1 y1, .slice g2 n2 y2, .slice g3 n3 y3, .slice g4 n4 y4] (0, 0) _ rfl (set5 HY2.out _ _ _ _ _) hu34 rfl (by kernel_rfl)) rfl ?_
    exact give_madeM (y := x) HM.out HB1.out.size HY2.out (by omega) HB2.out
set_option maxHeartbeats 4000000 in
set_option maxRecDepth 100000 in
theorem rrestG_calls (l : List S31) (A : Option Addr) (c : Nat) (x : Ln) (a : La) (i : Int) (w : World) (hl : Kd.C k31 w A l.length l) (hc : l.length ≤ c) (hfit : Fit l.length) (hx : LC w a x) (hz : Lz x) :
    Calls Try.prog 49 #[.slice A l.length c, .agg #[.int .i64 x.tm, .slice a.A1 x.st.length a.c1, .slice a.A2 x.si.length a.c2, .slice a.A3 x.pu.length a.c3, .slice a.A4 x.he.length a.c4], .int .i64 i] w (GivesM w (restG l x i).1 (restG l x i).2) := by
  have HL := Aside0.mk hl
  have HC := Aside0.mk hc
  have HX := Aside0.mk hx
  have HF := Aside0.mk hfit
  have HZ := Aside0.mk hz
  have hu34 := Try.underlying34
  clear hl hc hfit hx hz
  obtain ⟨E, hE⟩ : ∃ E, chk l x i = E := ⟨_, rfl⟩
  by_cases h0 : E = 0
  · subst h0
    obtain ⟨hv, i0, i1⟩ := chk_zero hE
    have HE := Aside0.mk hE
    have HV := Aside0.mk hv
    have hlen := hv.len
    have hN := hv.snd.len
    generalize hR : restG l x i = R
    have HR := Aside0.mk hR
    clear hR
    go_enter Try.func49, Try.ntmps49
    go_upto_region 2 with (go_at_call 23; (with_reducible refine (rcopy_calls x a _ (HX.out.below (by repeat (first | exact Below.refl _ _ | apply below_alloc))) HZ.out).mono ?_); rintro e w1 ⟨v1, v2, v3, v4, rfl, hm, hb1⟩; have hbx := blk_below (blk_alloc (blk_new w _) _) hb1; have hby := blk_below (blk2 w _ _) hb1; obtain ⟨g1, n1, y1, rfl⟩ := R_sl hm.r1; obtain ⟨g2, n2, y2, rfl⟩ := R_sl hm.r2; obtain ⟨g3, n3, y3, rfl⟩ := R_sl hm.r3; obtain ⟨g4, n4, y4, rfl⟩ := R_sl hm.r4; have b0 := (blk_cell hbx 0).trans rfl; have b1 := (blk_cell hbx 1).trans rfl; have b2 := (blk_cell hbx 2).trans rfl; have b3 := (blk_cell hbx 3).trans rfl; have b4 := (blk_cell hbx 4).trans rfl; have f0 := blk_frozen hbx 0; have f1 := blk_frozen hbx 1; have f2 := blk_frozen hbx 2; have f3 := blk_frozen hbx 3; have f4 := blk_frozen hbx 4; have HM := Aside0.mk hm; have HBX := Aside0.mk hbx; have HBY := Aside0.mk hby; have HB1 := Aside0.mk hb1; clear hm hbx hby hb1)
    have hO := own_made HM.out HBX.out (base := w.heap.size) (by simp only [World.size_alloc]; omega) (Nat.le_refl _)
    have hb := below_same (below_step (w := w) (by repeat (first | exact Below.refl _ _ | apply below_alloc)) HB1.out) (same5 w1 w.heap.size (.int .i64 x.tm) (.slice g1 n1 y1) (.slice g2 n2 y2) (.slice g3 n3 y3) (.slice g4 n4 y4)) (Nat.le_refl _)
    have hY := blk_same HBY.out (same5 w1 w.heap.size (.int .i64 x.tm) (.slice g1 n1 y1) (.slice g2 n2 y2) (.slice g3 n3 y3) (.slice g4 n4 y4)) (by omega)
    clear b0 b1 b2 b3 b4 f0 f1 f2 f3 f4 HM HBX HBY HB1
    generalize (((((w1.setCell ⟨w.heap.size, 0, none⟩ (.int .i64 x.tm)).setCell ⟨w.heap.size, 1, none⟩ (.slice g1 n1 y1)).setCell ⟨w.heap.size, 2, none⟩ (.slice g2 n2 y2)).setCell ⟨w.heap.size, 3, none⟩ (.slice g3 n3 y3)).setCell ⟨w.heap.size, 4, none⟩ (.slice g4 n4 y4)) = W2 at hO hb hY ⊢
    obtain rfl := hO.len1
    obtain rfl := hO.len2
    obtain rfl := hO.len3
    obtain rfl := hO.len4
    obtain ⟨a1, a2, a3, a4, rfl, rfl, rfl, rfl⟩ := hO.addr hlen (by omega)
    have b0 : W2.cell? ⟨w.heap.size, 0, none⟩ = some (.int .i64 x.tm) := (blk_cell hO.box 0).trans rfl; have b1 : W2.cell? ⟨w.heap.size, 1, none⟩ = some (.slice (some ⟨a1, 0, none⟩) x.st.length y1) := (blk_cell hO.box 1).trans rfl; have b2 : W2.cell? ⟨w.heap.size, 2, none⟩ = some (.slice (some ⟨a2, 0, none⟩) x.si.length y2) := (blk_cell hO.box 2).trans rfl; have b3 : W2.cell? ⟨w.heap.size, 3, none⟩ = some (.slice (some ⟨a3, 0, none⟩) x.pu.length y3) := (blk_cell hO.box 3).trans rfl; have b4 : W2.cell? ⟨w.heap.size, 4, none⟩ = some (.slice (some ⟨a4, 0, none⟩) x.he.length y4) := (blk_cell hO.box 4).trans rfl
    have HO := Aside0.mk hO
    have HB := Aside0.mk hb
    have HY := Aside0.mk hY
    clear hO hb hY
    obtain ⟨z1, z2, z3, z4⟩ := hlen
    have t1 : i < (x.st.length : Int) := by omega
    have t2 : i < (x.si.length : Int) := by omega
    have t3 : i < (x.pu.length : Int) := by omega
    have t4 : i < (x.he.length : Int) := by omega
    clear z1 z2 z3 z4 hE hv
    go_upto_region 5 with (go_at_call 57; (with_reducible refine (rcheck_calls l A c x ⟨(some ⟨a1, 0, none⟩), y1, (some ⟨a2, 0, none⟩), y2, (some ⟨a3, 0, none⟩), y3, (some ⟨a4, 0, none⟩), y4⟩ i _ (Kd.C_below HL.out HB.out) HC.out HF.out HO.out.LC).mono ?_); rintro e w3 ⟨rfl, hb3⟩; rw [HE.out]; have ho3 := HO.out.below hb3; have hy3 := blk_below HY.out hb3; have b0 : w3.cell? ⟨w.heap.size, 0, none⟩ = some (.int .i64 x.tm) := (blk_cell ho3.box 0).trans rfl; have b1 : w3.cell? ⟨w.heap.size, 1, none⟩ = some (.slice (some ⟨a1, 0, none⟩) x.st.length y1) := (blk_cell ho3.box 1).trans rfl; have b2 : w3.cell? ⟨w.heap.size, 2, none⟩ = some (.slice (some ⟨a2, 0, none⟩) x.si.length y2) := (blk_cell ho3.box 2).trans rfl; have b3 : w3.cell? ⟨w.heap.size, 3, none⟩ = some (.slice (some ⟨a3, 0, none⟩) x.pu.length y3) := (blk_cell ho3.box 3).trans rfl; have b4 : w3.cell? ⟨w.heap.size, 4, none⟩ = some (.slice (some ⟨a4, 0, none⟩) x.he.length y4) := (blk_cell ho3.box 4).trans rfl; have z0 : w3.cell? ⟨w.heap.size + 1, 0, none⟩ = some (Value.int IntKind.i64 0) := (blk_cell hy3 0).trans rfl; have f0 := blk_frozen hy3 0; have z1 : w3.cell? ⟨w.heap.size + 1, 1, none⟩ = some (Value.slice none 0 0) := (blk_cell hy3 1).trans rfl; have f1 := blk_frozen hy3 1; have z2 : w3.cell? ⟨w.heap.size + 1, 2, none⟩ = some (Value.slice none 0 0) := (blk_cell hy3 2).trans rfl; have f2 := blk_frozen hy3 2; have z3 : w3.cell? ⟨w.heap.size + 1, 3, none⟩ = some (Value.slice none 0 0) := (blk_cell hy3 3).trans rfl; have f3 := blk_frozen hy3 3; have z4 : w3.cell? ⟨w.heap.size + 1, 4, none⟩ = some (Value.slice none 0 0) := (blk_cell hy3 4).trans rfl; have f4 := blk_frozen hy3 4; have HO3 := Aside0.mk ho3; have HY3 := Aside0.mk hy3; have HB3 := Aside0.mk (below_step HB.out hb3); clear ho3 hy3 hb3)
    obtain ⟨E3, F3⟩ := HO3.out.cell3 i i0 t3
    have hS := HR.out
    unfold restG at hS
    rw [if_neg (by rw [HE.out]; simp)] at hS
    obtain ⟨_, _, _, _, n3, n4, _, _, p3, p4, _, _, ⟨cs3, hc3⟩, ⟨cs4, hc4⟩⟩ := HO3.out.facts
    have m3 : a3 ≠ w.heap.size + 1 := blk_ne hc3 HY3.out (by decide)
    have HC3 := Aside0.mk hc3
    clear hc3 hc4
    by_cases s : rdOf false x.pu i = false
    · rw [if_pos s] at hS
      subst hS
      clear HR
      go_wp2_with fail
      refine bodyPost_ret (results_ct rfl _ _ (w.heap.size + 1) 34 #[.int .i64 x.tm, .slice (some ⟨a1, 0, none⟩) x.st.length y1, .slice (some ⟨a2, 0, none⟩) x.si.length y2, .slice (some ⟨a3, 0, none⟩) x.pu.length y3, .slice (some ⟨a4, 0, none⟩) x.he.length y4] (0, 0) _ rfl (set5 HY3.out _ _ _ _ _) hu34 rfl (by kernel_rfl)) rfl ?_
      exact give_own HO3.out HY3.out (by omega) HB3.out
    · have s2 : rdOf false x.pu i = true := by simpa using s
      rw [if_neg s] at hS
      subst hS
      clear HR s
      go_wp2_with fail
      have o2 := HO3.out.setPu rfl n3 HC3.out i false
      have hy5 := blk_far (p := ⟨a3, i.toNat, none⟩) HY3.out (Ne.symm m3) (.bool false)
      have bl := below_set (j := i.toNat) (v := .bool false) HB3.out p3
      refine bodyPost_ret (results_ct rfl _ _ (w.heap.size + 1) 34 #[.int .i64 x.tm, .slice (some ⟨a1, 0, none⟩) x.st.length y1, .slice (some ⟨a2, 0, none⟩) x.si.length y2, .slice (some ⟨a3, 0, none⟩) x.pu.length y3, .slice (some ⟨a4, 0, none⟩) x.he.length y4] (0, 0) _ rfl (set5 hy5 _ _ _ _ _) hu34 rfl (by kernel_rfl)) rfl ?_
      exact give_own (y := restF i x) o2 hy5 (by omega) bl
  · have hS : restG l x i = (x, E) := by unfold restG; rw [if_pos (by rw [hE]; exact h0), hE]
    rw [hS]
    have HE := Aside0.mk hE
    have t0 : (E != 0) = true := by simp [h0]
    clear hS hE h0
    go_enter Try.func49, Try.ntmps49
    go_upto_region 2 with (go_at_call 23; (with_reducible refine (rcopy_calls x a _ (HX.out.below (by repeat (first | exact Below.refl _ _ | apply below_alloc))) HZ.out).mono ?_); rintro e w1 ⟨v1, v2, v3, v4, rfl, hm, hb1⟩; have hbx := blk_below (blk_alloc (blk_new w _) _) hb1; have hby := blk_below (blk2 w _ _) hb1; obtain ⟨g1, n1, y1, rfl⟩ := R_sl hm.r1; obtain ⟨g2, n2, y2, rfl⟩ := R_sl hm.r2; obtain ⟨g3, n3, y3, rfl⟩ := R_sl hm.r3; obtain ⟨g4, n4, y4, rfl⟩ := R_sl hm.r4; have b0 := (blk_cell hbx 0).trans rfl; have b1 := (blk_cell hbx 1).trans rfl; have b2 := (blk_cell hbx 2).trans rfl; have b3 := (blk_cell hbx 3).trans rfl; have b4 := (blk_cell hbx 4).trans rfl; have f0 := blk_frozen hbx 0; have f1 := blk_frozen hbx 1; have f2 := blk_frozen hbx 2; have f3 := blk_frozen hbx 3; have f4 := blk_frozen hbx 4; have HM := Aside0.mk hm; have HBX := Aside0.mk hbx; have HBY := Aside0.mk hby; have HB1 := Aside0.mk hb1; clear hm hbx hby hb1)
    have hO := own_made HM.out HBX.out (base := w.heap.size) (by simp only [World.size_alloc]; omega) (Nat.le_refl _)
    have hb := below_same (below_step (w := w) (by repeat (first | exact Below.refl _ _ | apply below_alloc)) HB1.out) (same5 w1 w.heap.size (.int .i64 x.tm) (.slice g1 n1 y1) (.slice g2 n2 y2) (.slice g3 n3 y3) (.slice g4 n4 y4)) (Nat.le_refl _)
    have hY := blk_same HBY.out (same5 w1 w.heap.size (.int .i64 x.tm) (.slice g1 n1 y1) (.slice g2 n2 y2) (.slice g3 n3 y3) (.slice g4 n4 y4)) (by omega)
    clear b0 b1 b2 b3 b4 f0 f1 f2 f3 f4 HM HBX HBY HB1
    generalize (((((w1.setCell ⟨w.heap.size, 0, none⟩ (.int .i64 x.tm)).setCell ⟨w.heap.size, 1, none⟩ (.slice g1 n1 y1)).setCell ⟨w.heap.size, 2, none⟩ (.slice g2 n2 y2)).setCell ⟨w.heap.size, 3, none⟩ (.slice g3 n3 y3)).setCell ⟨w.heap.size, 4, none⟩ (.slice g4 n4 y4)) = W2 at hO hb hY ⊢
    obtain rfl := hO.len1
    obtain rfl := hO.len2
    obtain rfl := hO.len3
    obtain rfl := hO.len4
    have b0 : W2.cell? ⟨w.heap.size, 0, none⟩ = some (.int .i64 x.tm) := (blk_cell hO.box 0).trans rfl; have b1 : W2.cell? ⟨w.heap.size, 1, none⟩ = some (.slice g1 x.st.length y1) := (blk_cell hO.box 1).trans rfl; have b2 : W2.cell? ⟨w.heap.size, 2, none⟩ = some (.slice g2 x.si.length y2) := (blk_cell hO.box 2).trans rfl; have b3 : W2.cell? ⟨w.heap.size, 3, none⟩ = some (.slice g3 x.pu.length y3) := (blk_cell hO.box 3).trans rfl; have b4 : W2.cell? ⟨w.heap.size, 4, none⟩ = some (.slice g4 x.he.length y4) := (blk_cell hO.box 4).trans rfl
    have HO := Aside0.mk hO
    have HB := Aside0.mk hb
    have HY := Aside0.mk hY
    clear hO hb hY
    go_wp2_with (go_at_call 57; (with_reducible refine (rcheck_calls l A c x ⟨g1, y1, g2, y2, g3, y3, g4, y4⟩ i _ (Kd.C_below HL.out HB.out) HC.out HF.out HO.out.LC).mono ?_); rintro e w3 ⟨rfl, hb3⟩; rw [HE.out]; have ho3 := HO.out.below hb3; have hy3 := blk_below HY.out hb3; have b0 : w3.cell? ⟨w.heap.size, 0, none⟩ = some (.int .i64 x.tm) := (blk_cell ho3.box 0).trans rfl; have b1 : w3.cell? ⟨w.heap.size, 1, none⟩ = some (.slice g1 x.st.length y1) := (blk_cell ho3.box 1).trans rfl; have b2 : w3.cell? ⟨w.heap.size, 2, none⟩ = some (.slice g2 x.si.length y2) := (blk_cell ho3.box 2).trans rfl; have b3 : w3.cell? ⟨w.heap.size, 3, none⟩ = some (.slice g3 x.pu.length y3) := (blk_cell ho3.box 3).trans rfl; have b4 : w3.cell? ⟨w.heap.size, 4, none⟩ = some (.slice g4 x.he.length y4) := (blk_cell ho3.box 4).trans rfl; have z0 : w3.cell? ⟨w.heap.size + 1, 0, none⟩ = some (Value.int IntKind.i64 0) := (blk_cell hy3 0).trans rfl; have f0 := blk_frozen hy3 0; have z1 : w3.cell? ⟨w.heap.size + 1, 1, none⟩ = some (Value.slice none 0 0) := (blk_cell hy3 1).trans rfl; have f1 := blk_frozen hy3 1; have z2 : w3.cell? ⟨w.heap.size + 1, 2, none⟩ = some (Value.slice none 0 0) := (blk_cell hy3 2).trans rfl; have f2 := blk_frozen hy3 2; have z3 : w3.cell? ⟨w.heap.size + 1, 3, none⟩ = some (Value.slice none 0 0) := (blk_cell hy3 3).trans rfl; have f3 := blk_frozen hy3 3; have z4 : w3.cell? ⟨w.heap.size + 1, 4, none⟩ = some (Value.slice none 0 0) := (blk_cell hy3 4).trans rfl; have f4 := blk_frozen hy3 4; have HO3 := Aside0.mk ho3; have HY3 := Aside0.mk hy3; have HB3 := Aside0.mk (below_step HB.out hb3); clear ho3 hy3 hb3)
    refine bodyPost_ret (results_ct rfl _ _ (w.heap.size + 1) 34 #[.int .i64 x.tm, .slice g1 x.st.length y1, .slice g2 x.si.length y2, .slice g3 x.pu.length y3, .slice g4 x.he.length y4] (0, 0) _ rfl (set5 HY3.out _ _ _ _ _) hu34 rfl (by kernel_rfl)) rfl ?_
    exact give_own HO3.out HY3.out (by omega) HB3.out
set_option maxHeartbeats 4000000 in
set_option maxRecDepth 100000 in
theorem rholdG_false (l : List S31) (A : Option Addr) (c : Nat) (x : Ln) (a : La) (i : Int) (w : World) (hl : Kd.C k31 w A l.length l) (hc : l.length ≤ c) (hfit : Fit l.length) (hx : LC w a x) (hz : Lz x) :
    Calls Try.prog 50 #[.slice A l.length c, .agg #[.int .i64 x.tm, .slice a.A1 x.st.length a.c1, .slice a.A2 x.si.length a.c2, .slice a.A3 x.pu.length a.c3, .slice a.A4 x.he.length a.c4], .int .i64 i, .bool false] w (GivesM w (holdG l x i false).1 (holdG l x i false).2) := by
  have HL := Aside0.mk hl
  have HC := Aside0.mk hc
  have HX := Aside0.mk hx
  have HF := Aside0.mk hfit
  have HZ := Aside0.mk hz
  have hu34 := Try.underlying34
  clear hl hc hfit hx hz
  obtain ⟨E, hE⟩ : ∃ E, chk l x i = E := ⟨_, rfl⟩
  by_cases h0 : E = 0
  · subst h0
    obtain ⟨hv, i0, i1⟩ := chk_zero hE
    have HE := Aside0.mk hE
    have HV := Aside0.mk hv
    have hlen := hv.len
    have hN := hv.snd.len
    have hS : holdG l x i false = (holdF l i false x, 0) := by unfold holdG; rw [if_neg (by rw [hE]; simp)]
    rw [hS]
    clear hS
    go_enter Try.func50, Try.ntmps50
    go_upto_region 2 with (go_at_call 23; (with_reducible refine (rcopy_calls x a _ (HX.out.below (by repeat (first | exact Below.refl _ _ | apply below_alloc))) HZ.out).mono ?_); rintro e w1 ⟨v1, v2, v3, v4, rfl, hm, hb1⟩; have hbx := blk_below (blk_alloc (blk_new w _) _) hb1; have hby := blk_below (blk2 w _ _) hb1; obtain ⟨g1, n1, y1, rfl⟩ := R_sl hm.r1; obtain ⟨g2, n2, y2, rfl⟩ := R_sl hm.r2; obtain ⟨g3, n3, y3, rfl⟩ := R_sl hm.r3; obtain ⟨g4, n4, y4, rfl⟩ := R_sl hm.r4; have b0 := (blk_cell hbx 0).trans rfl; have b1 := (blk_cell hbx 1).trans rfl; have b2 := (blk_cell hbx 2).trans rfl; have b3 := (blk_cell hbx 3).trans rfl; have b4 := (blk_cell hbx 4).trans rfl; have f0 := blk_frozen hbx 0; have f1 := blk_frozen hbx 1; have f2 := blk_frozen hbx 2; have f3 := blk_frozen hbx 3; have f4 := blk_frozen hbx 4; have HM := Aside0.mk hm; have HBX := Aside0.mk hbx; have HBY := Aside0.mk hby; have HB1 := Aside0.mk hb1; clear hm hbx hby hb1)
    have hO := own_made HM.out HBX.out (base := w.heap.size) (by simp only [World.size_alloc]; omega) (Nat.le_refl _)
    have hb := below_same (below_step (w := w) (by repeat (first | exact Below.refl _ _ | apply below_alloc)) HB1.out) (same5 w1 w.heap.size (.int .i64 x.tm) (.slice g1 n1 y1) (.slice g2 n2 y2) (.slice g3 n3 y3) (.slice g4 n4 y4)) (Nat.le_refl _)
    have hY := blk_same HBY.out (same5 w1 w.heap.size (.int .i64 x.tm) (.slice g1 n1 y1) (.slice g2 n2 y2) (.slice g3 n3 y3) (.slice g4 n4 y4)) (by omega)
    clear b0 b1 b2 b3 b4 f0 f1 f2 f3 f4 HM HBX HBY HB1
    generalize (((((w1.setCell ⟨w.heap.size, 0, none⟩ (.int .i64 x.tm)).setCell ⟨w.heap.size, 1, none⟩ (.slice g1 n1 y1)).setCell ⟨w.heap.size, 2, none⟩ (.slice g2 n2 y2)).setCell ⟨w.heap.size, 3, none⟩ (.slice g3 n3 y3)).setCell ⟨w.heap.size, 4, none⟩ (.slice g4 n4 y4)) = W2 at hO hb hY ⊢
    obtain rfl := hO.len1
    obtain rfl := hO.len2
    obtain rfl := hO.len3
    obtain rfl := hO.len4
    obtain ⟨a1, a2, a3, a4, rfl, rfl, rfl, rfl⟩ := hO.addr hlen (by omega)
    have b0 : W2.cell? ⟨w.heap.size, 0, none⟩ = some (.int .i64 x.tm) := (blk_cell hO.box 0).trans rfl; have b1 : W2.cell? ⟨w.heap.size, 1, none⟩ = some (.slice (some ⟨a1, 0, none⟩) x.st.length y1) := (blk_cell hO.box 1).trans rfl; have b2 : W2.cell? ⟨w.heap.size, 2, none⟩ = some (.slice (some ⟨a2, 0, none⟩) x.si.length y2) := (blk_cell hO.box 2).trans rfl; have b3 : W2.cell? ⟨w.heap.size, 3, none⟩ = some (.slice (some ⟨a3, 0, none⟩) x.pu.length y3) := (blk_cell hO.box 3).trans rfl; have b4 : W2.cell? ⟨w.heap.size, 4, none⟩ = some (.slice (some ⟨a4, 0, none⟩) x.he.length y4) := (blk_cell hO.box 4).trans rfl
    have HO := Aside0.mk hO
    have HB := Aside0.mk hb
    have HY := Aside0.mk hY
    clear hO hb hY
    obtain ⟨z1, z2, z3, z4⟩ := hlen
    have t1 : i < (x.st.length : Int) := by omega
    have t2 : i < (x.si.length : Int) := by omega
    have t3 : i < (x.pu.length : Int) := by omega
    have t4 : i < (x.he.length : Int) := by omega
    clear z1 z2 z3 z4 hE hv
    go_upto_region 5 with (go_at_call 57; (with_reducible refine (rcheck_calls l A c x ⟨(some ⟨a1, 0, none⟩), y1, (some ⟨a2, 0, none⟩), y2, (some ⟨a3, 0, none⟩), y3, (some ⟨a4, 0, none⟩), y4⟩ i _ (Kd.C_below HL.out HB.out) HC.out HF.out HO.out.LC).mono ?_); rintro e w3 ⟨rfl, hb3⟩; rw [HE.out]; have ho3 := HO.out.below hb3; have hy3 := blk_below HY.out hb3; have b0 : w3.cell? ⟨w.heap.size, 0, none⟩ = some (.int .i64 x.tm) := (blk_cell ho3.box 0).trans rfl; have b1 : w3.cell? ⟨w.heap.size, 1, none⟩ = some (.slice (some ⟨a1, 0, none⟩) x.st.length y1) := (blk_cell ho3.box 1).trans rfl; have b2 : w3.cell? ⟨w.heap.size, 2, none⟩ = some (.slice (some ⟨a2, 0, none⟩) x.si.length y2) := (blk_cell ho3.box 2).trans rfl; have b3 : w3.cell? ⟨w.heap.size, 3, none⟩ = some (.slice (some ⟨a3, 0, none⟩) x.pu.length y3) := (blk_cell ho3.box 3).trans rfl; have b4 : w3.cell? ⟨w.heap.size, 4, none⟩ = some (.slice (some ⟨a4, 0, none⟩) x.he.length y4) := (blk_cell ho3.box 4).trans rfl; have z0 : w3.cell? ⟨w.heap.size + 1, 0, none⟩ = some (Value.int IntKind.i64 0) := (blk_cell hy3 0).trans rfl; have f0 := blk_frozen hy3 0; have z1 : w3.cell? ⟨w.heap.size + 1, 1, none⟩ = some (Value.slice none 0 0) := (blk_cell hy3 1).trans rfl; have f1 := blk_frozen hy3 1; have z2 : w3.cell? ⟨w.heap.size + 1, 2, none⟩ = some (Value.slice none 0 0) := (blk_cell hy3 2).trans rfl; have f2 := blk_frozen hy3 2; have z3 : w3.cell? ⟨w.heap.size + 1, 3, none⟩ = some (Value.slice none 0 0) := (blk_cell hy3 3).trans rfl; have f3 := blk_frozen hy3 3; have z4 : w3.cell? ⟨w.heap.size + 1, 4, none⟩ = some (Value.slice none 0 0) := (blk_cell hy3 4).trans rfl; have f4 := blk_frozen hy3 4; have HO3 := Aside0.mk ho3; have HY3 := Aside0.mk hy3; have HB3 := Aside0.mk (below_step HB.out hb3); clear ho3 hy3 hb3)
    obtain ⟨E4, F4⟩ := HO3.out.cell4 i i0 t4
    obtain ⟨_, _, _, _, n3, n4, _, _, p3, p4, _, _, ⟨cs3, hc3⟩, ⟨cs4, hc4⟩⟩ := HO3.out.facts
    have m4 : a4 ≠ w.heap.size + 1 := blk_ne hc4 HY3.out (by decide)
    have HC4 := Aside0.mk hc4
    clear hc3 hc4
    go_wp2_with fail
    have o2 := HO3.out.setHe rfl n4 HC4.out i false
    have hy5 := blk_far (p := ⟨a4, i.toNat, none⟩) HY3.out (Ne.symm m4) (.bool false)
    have bl := below_set (j := i.toNat) (v := .bool false) HB3.out p4
    refine bodyPost_ret (results_ct rfl _ _ (w.heap.size + 1) 34 #[.int .i64 x.tm, .slice (some ⟨a1, 0, none⟩) x.st.length y1, .slice (some ⟨a2, 0, none⟩) x.si.length y2, .slice (some ⟨a3, 0, none⟩) x.pu.length y3, .slice (some ⟨a4, 0, none⟩) x.he.length y4] (0, 0) _ rfl (set5 hy5 _ _ _ _ _) hu34 rfl (by kernel_rfl)) rfl ?_
    exact give_own (y := holdF l i false x) o2 hy5 (by omega) bl
  · have hS : holdG l x i false = (x, E) := by unfold holdG; rw [if_pos (by rw [hE]; exact h0), hE]
    rw [hS]
    have HE := Aside0.mk hE
    have t0 : (E != 0) = true := by simp [h0]
    clear hS hE h0
    go_enter Try.func50, Try.ntmps50
    go_upto_region 2 with (go_at_call 23; (with_reducible refine (rcopy_calls x a _ (HX.out.below (by repeat (first | exact Below.refl _ _ | apply below_alloc))) HZ.out).mono ?_); rintro e w1 ⟨v1, v2, v3, v4, rfl, hm, hb1⟩; have hbx := blk_below (blk_alloc (blk_new w _) _) hb1; have hby := blk_below (blk2 w _ _) hb1; obtain ⟨g1, n1, y1, rfl⟩ := R_sl hm.r1; obtain ⟨g2, n2, y2, rfl⟩ := R_sl hm.r2; obtain ⟨g3, n3, y3, rfl⟩ := R_sl hm.r3; obtain ⟨g4, n4, y4, rfl⟩ := R_sl hm.r4; have b0 := (blk_cell hbx 0).trans rfl; have b1 := (blk_cell hbx 1).trans rfl; have b2 := (blk_cell hbx 2).trans rfl; have b3 := (blk_cell hbx 3).trans rfl; have b4 := (blk_cell hbx 4).trans rfl; have f0 := blk_frozen hbx 0; have f1 := blk_frozen hbx 1; have f2 := blk_frozen hbx 2; have f3 := blk_frozen hbx 3; have f4 := blk_frozen hbx 4; have HM := Aside0.mk hm; have HBX := Aside0.mk hbx; have HBY := Aside0.mk hby; have HB1 := Aside0.mk hb1; clear hm hbx hby hb1)
    have hO := own_made HM.out HBX.out (base := w.heap.size) (by simp only [World.size_alloc]; omega) (Nat.le_refl _)
    have hb := below_same (below_step (w := w) (by repeat (first | exact Below.refl _ _ | apply below_alloc)) HB1.out) (same5 w1 w.heap.size (.int .i64 x.tm) (.slice g1 n1 y1) (.slice g2 n2 y2) (.slice g3 n3 y3) (.slice g4 n4 y4)) (Nat.le_refl _)
    have hY := blk_same HBY.out (same5 w1 w.heap.size (.int .i64 x.tm) (.slice g1 n1 y1) (.slice g2 n2 y2) (.slice g3 n3 y3) (.slice g4 n4 y4)) (by omega)
    clear b0 b1 b2 b3 b4 f0 f1 f2 f3 f4 HM HBX HBY HB1
    generalize (((((w1.setCell ⟨w.heap.size, 0, none⟩ (.int .i64 x.tm)).setCell ⟨w.heap.size, 1, none⟩ (.slice g1 n1 y1)).setCell ⟨w.heap.size, 2, none⟩ (.slice g2 n2 y2)).setCell ⟨w.heap.size, 3, none⟩ (.slice g3 n3 y3)).setCell ⟨w.heap.size, 4, none⟩ (.slice g4 n4 y4)) = W2 at hO hb hY ⊢
    obtain rfl := hO.len1
    obtain rfl := hO.len2
    obtain rfl := hO.len3
    obtain rfl := hO.len4
    have b0 : W2.cell? ⟨w.heap.size, 0, none⟩ = some (.int .i64 x.tm) := (blk_cell hO.box 0).trans rfl; have b1 : W2.cell? ⟨w.heap.size, 1, none⟩ = some (.slice g1 x.st.length y1) := (blk_cell hO.box 1).trans rfl; have b2 : W2.cell? ⟨w.heap.size, 2, none⟩ = some (.slice g2 x.si.length y2) := (blk_cell hO.box 2).trans rfl; have b3 : W2.cell? ⟨w.heap.size, 3, none⟩ = some (.slice g3 x.pu.length y3) := (blk_cell hO.box 3).trans rfl; have b4 : W2.cell? ⟨w.heap.size, 4, none⟩ = some (.slice g4 x.he.length y4) := (blk_cell hO.box 4).trans rfl
    have HO := Aside0.mk hO
    have HB := Aside0.mk hb
    have HY := Aside0.mk hY
    clear hO hb hY
    go_wp2_with (go_at_call 57; (with_reducible refine (rcheck_calls l A c x ⟨g1, y1, g2, y2, g3, y3, g4, y4⟩ i _ (Kd.C_below HL.out HB.out) HC.out HF.out HO.out.LC).mono ?_); rintro e w3 ⟨rfl, hb3⟩; rw [HE.out]; have ho3 := HO.out.below hb3; have hy3 := blk_below HY.out hb3; have b0 : w3.cell? ⟨w.heap.size, 0, none⟩ = some (.int .i64 x.tm) := (blk_cell ho3.box 0).trans rfl; have b1 : w3.cell? ⟨w.heap.size, 1, none⟩ = some (.slice g1 x.st.length y1) := (blk_cell ho3.box 1).trans rfl; have b2 : w3.cell? ⟨w.heap.size, 2, none⟩ = some (.slice g2 x.si.length y2) := (blk_cell ho3.box 2).trans rfl; have b3 : w3.cell? ⟨w.heap.size, 3, none⟩ = some (.slice g3 x.pu.length y3) := (blk_cell ho3.box 3).trans rfl; have b4 : w3.cell? ⟨w.heap.size, 4, none⟩ = some (.slice g4 x.he.length y4) := (blk_cell ho3.box 4).trans rfl; have z0 : w3.cell? ⟨w.heap.size + 1, 0, none⟩ = some (Value.int IntKind.i64 0) := (blk_cell hy3 0).trans rfl; have f0 := blk_frozen hy3 0; have z1 : w3.cell? ⟨w.heap.size + 1, 1, none⟩ = some (Value.slice none 0 0) := (blk_cell hy3 1).trans rfl; have f1 := blk_frozen hy3 1; have z2 : w3.cell? ⟨w.heap.size + 1, 2, none⟩ = some (Value.slice none 0 0) := (blk_cell hy3 2).trans rfl; have f2 := blk_frozen hy3 2; have z3 : w3.cell? ⟨w.heap.size + 1, 3, none⟩ = some (Value.slice none 0 0) := (blk_cell hy3 3).trans rfl; have f3 := blk_frozen hy3 3; have z4 : w3.cell? ⟨w.heap.size + 1, 4, none⟩ = some (Value.slice none 0 0) := (blk_cell hy3 4).trans rfl; have f4 := blk_frozen hy3 4; have HO3 := Aside0.mk ho3; have HY3 := Aside0.mk hy3; have HB3 := Aside0.mk (below_step HB.out hb3); clear ho3 hy3 hb3)
    refine bodyPost_ret (results_ct rfl _ _ (w.heap.size + 1) 34 #[.int .i64 x.tm, .slice g1 x.st.length y1, .slice g2 x.si.length y2, .slice g3 x.pu.length y3, .slice g4 x.he.length y4] (0, 0) _ rfl (set5 HY3.out _ _ _ _ _) hu34 rfl (by kernel_rfl)) rfl ?_
    exact give_own HO3.out HY3.out (by omega) HB3.out
set_option maxHeartbeats 4000000 in
set_option maxRecDepth 100000 in
theorem rholdG_true (l : List S31) (A : Option Addr) (c : Nat) (x : Ln) (a : La) (i : Int) (w : World) (hl : Kd.C k31 w A l.length l) (hc : l.length ≤ c) (hfit : Fit l.length) (hx : LC w a x) (hz : Lz x) :
    Calls Try.prog 50 #[.slice A l.length c, .agg #[.int .i64 x.tm, .slice a.A1 x.st.length a.c1, .slice a.A2 x.si.length a.c2, .slice a.A3 x.pu.length a.c3, .slice a.A4 x.he.length a.c4], .int .i64 i, .bool true] w (GivesM w (holdG l x i true).1 (holdG l x i true).2) := by
  have HL := Aside0.mk hl
  have HC := Aside0.mk hc
  have HX := Aside0.mk hx
  have HF := Aside0.mk hfit
  have HZ := Aside0.mk hz
  have hu34 := Try.underlying34
  clear hl hc hfit hx hz
  obtain ⟨E, hE⟩ : ∃ E, chk l x i = E := ⟨_, rfl⟩
  by_cases h0 : E = 0
  · subst h0
    obtain ⟨hv, i0, i1⟩ := chk_zero hE
    have HE := Aside0.mk hE
    have HV := Aside0.mk hv
    have hlen := hv.len
    have hN := hv.snd.len
    have hS : holdG l x i true = (holdF l i true x, 0) := by unfold holdG; rw [if_neg (by rw [hE]; simp)]
    rw [hS]
    clear hS
    go_enter Try.func50, Try.ntmps50
    go_upto_region 2 with (go_at_call 23; (with_reducible refine (rcopy_calls x a _ (HX.out.below (by repeat (first | exact Below.refl _ _ | apply below_alloc))) HZ.out).mono ?_); rintro e w1 ⟨v1, v2, v3, v4, rfl, hm, hb1⟩; have hbx := blk_below (blk_alloc (blk_new w _) _) hb1; have hby := blk_below (blk2 w _ _) hb1; obtain ⟨g1, n1, y1, rfl⟩ := R_sl hm.r1; obtain ⟨g2, n2, y2, rfl⟩ := R_sl hm.r2; obtain ⟨g3, n3, y3, rfl⟩ := R_sl hm.r3; obtain ⟨g4, n4, y4, rfl⟩ := R_sl hm.r4; have b0 := (blk_cell hbx 0).trans rfl; have b1 := (blk_cell hbx 1).trans rfl; have b2 := (blk_cell hbx 2).trans rfl; have b3 := (blk_cell hbx 3).trans rfl; have b4 := (blk_cell hbx 4).trans rfl; have f0 := blk_frozen hbx 0; have f1 := blk_frozen hbx 1; have f2 := blk_frozen hbx 2; have f3 := blk_frozen hbx 3; have f4 := blk_frozen hbx 4; have HM := Aside0.mk hm; have HBX := Aside0.mk hbx; have HBY := Aside0.mk hby; have HB1 := Aside0.mk hb1; clear hm hbx hby hb1)
    have hO := own_made HM.out HBX.out (base := w.heap.size) (by simp only [World.size_alloc]; omega) (Nat.le_refl _)
    have hb := below_same (below_step (w := w) (by repeat (first | exact Below.refl _ _ | apply below_alloc)) HB1.out) (same5 w1 w.heap.size (.int .i64 x.tm) (.slice g1 n1 y1) (.slice g2 n2 y2) (.slice g3 n3 y3) (.slice g4 n4 y4)) (Nat.le_refl _)
    have hY := blk_same HBY.out (same5 w1 w.heap.size (.int .i64 x.tm) (.slice g1 n1 y1) (.slice g2 n2 y2) (.slice g3 n3 y3) (.slice g4 n4 y4)) (by omega)
    clear b0 b1 b2 b3 b4 f0 f1 f2 f3 f4 HM HBX HBY HB1
    generalize (((((w1.setCell ⟨w.heap.size, 0, none⟩ (.int .i64 x.tm)).setCell ⟨w.heap.size, 1, none⟩ (.slice g1 n1 y1)).setCell ⟨w.heap.size, 2, none⟩ (.slice g2 n2 y2)).setCell ⟨w.heap.size, 3, none⟩ (.slice g3 n3 y3)).setCell ⟨w.heap.size, 4, none⟩ (.slice g4 n4 y4)) = W2 at hO hb hY ⊢
    obtain rfl := hO.len1
    obtain rfl := hO.len2
    obtain rfl := hO.len3
    obtain rfl := hO.len4
    obtain ⟨a1, a2, a3, a4, rfl, rfl, rfl, rfl⟩ := hO.addr hlen (by omega)
    have b0 : W2.cell? ⟨w.heap.size, 0, none⟩ = some (.int .i64 x.tm) := (blk_cell hO.box 0).trans rfl; have b1 : W2.cell? ⟨w.heap.size, 1, none⟩ = some (.slice (some ⟨a1, 0, none⟩) x.st.length y1) := (blk_cell hO.box 1).trans rfl; have b2 : W2.cell? ⟨w.heap.size, 2, none⟩ = some (.slice (some ⟨a2, 0, none⟩) x.si.length y2) := (blk_cell hO.box 2).trans rfl; have b3 : W2.cell? ⟨w.heap.size, 3, none⟩ = some (.slice (some ⟨a3, 0, none⟩) x.pu.length y3) := (blk_cell hO.box 3).trans rfl; have b4 : W2.cell? ⟨w.heap.size, 4, none⟩ = some (.slice (some ⟨a4, 0, none⟩) x.he.length y4) := (blk_cell hO.box 4).trans rfl
    have HO := Aside0.mk hO
    have HB := Aside0.mk hb
    have HY := Aside0.mk hY
    clear hO hb hY
    obtain ⟨z1, z2, z3, z4⟩ := hlen
    have t1 : i < (x.st.length : Int) := by omega
    have t2 : i < (x.si.length : Int) := by omega
    have t3 : i < (x.pu.length : Int) := by omega
    have t4 : i < (x.he.length : Int) := by omega
    clear z1 z2 z3 z4 hE hv
    go_upto_region 5 with (go_at_call 57; (with_reducible refine (rcheck_calls l A c x ⟨(some ⟨a1, 0, none⟩), y1, (some ⟨a2, 0, none⟩), y2, (some ⟨a3, 0, none⟩), y3, (some ⟨a4, 0, none⟩), y4⟩ i _ (Kd.C_below HL.out HB.out) HC.out HF.out HO.out.LC).mono ?_); rintro e w3 ⟨rfl, hb3⟩; rw [HE.out]; have ho3 := HO.out.below hb3; have hy3 := blk_below HY.out hb3; have b0 : w3.cell? ⟨w.heap.size, 0, none⟩ = some (.int .i64 x.tm) := (blk_cell ho3.box 0).trans rfl; have b1 : w3.cell? ⟨w.heap.size, 1, none⟩ = some (.slice (some ⟨a1, 0, none⟩) x.st.length y1) := (blk_cell ho3.box 1).trans rfl; have b2 : w3.cell? ⟨w.heap.size, 2, none⟩ = some (.slice (some ⟨a2, 0, none⟩) x.si.length y2) := (blk_cell ho3.box 2).trans rfl; have b3 : w3.cell? ⟨w.heap.size, 3, none⟩ = some (.slice (some ⟨a3, 0, none⟩) x.pu.length y3) := (blk_cell ho3.box 3).trans rfl; have b4 : w3.cell? ⟨w.heap.size, 4, none⟩ = some (.slice (some ⟨a4, 0, none⟩) x.he.length y4) := (blk_cell ho3.box 4).trans rfl; have z0 : w3.cell? ⟨w.heap.size + 1, 0, none⟩ = some (Value.int IntKind.i64 0) := (blk_cell hy3 0).trans rfl; have f0 := blk_frozen hy3 0; have z1 : w3.cell? ⟨w.heap.size + 1, 1, none⟩ = some (Value.slice none 0 0) := (blk_cell hy3 1).trans rfl; have f1 := blk_frozen hy3 1; have z2 : w3.cell? ⟨w.heap.size + 1, 2, none⟩ = some (Value.slice none 0 0) := (blk_cell hy3 2).trans rfl; have f2 := blk_frozen hy3 2; have z3 : w3.cell? ⟨w.heap.size + 1, 3, none⟩ = some (Value.slice none 0 0) := (blk_cell hy3 3).trans rfl; have f3 := blk_frozen hy3 3; have z4 : w3.cell? ⟨w.heap.size + 1, 4, none⟩ = some (Value.slice none 0 0) := (blk_cell hy3 4).trans rfl; have f4 := blk_frozen hy3 4; have HO3 := Aside0.mk ho3; have HY3 := Aside0.mk hy3; have HB3 := Aside0.mk (below_step HB.out hb3); clear ho3 hy3 hb3)
    go_upto_region 7 with (go_at_call 58; (with_reducible refine (rstop_calls l A c x ⟨(some ⟨a1, 0, none⟩), y1, (some ⟨a2, 0, none⟩), y2, (some ⟨a3, 0, none⟩), y3, (some ⟨a4, 0, none⟩), y4⟩ i _ (Kd.C_below HL.out HB3.out) HC.out HV.out.snd HO3.out.LC HV.out.len i0 i1).mono ?_); rintro e w4 ⟨v1, v2, v3, v4, rfl, hm, hb4⟩; have hx2 := blk_below HO3.out.box hb4; have hy2 := blk_below HY3.out hb4; obtain ⟨g1, n1, d1, rfl⟩ := R_sl hm.r1; obtain ⟨g2, n2, d2, rfl⟩ := R_sl hm.r2; obtain ⟨g3, n3, d3, rfl⟩ := R_sl hm.r3; obtain ⟨g4, n4, d4, rfl⟩ := R_sl hm.r4; have c0 := (blk_cell hx2 0).trans rfl; have s0 := blk_frozen hx2 0; have c1 := (blk_cell hx2 1).trans rfl; have s1 := blk_frozen hx2 1; have c2 := (blk_cell hx2 2).trans rfl; have s2 := blk_frozen hx2 2; have c3 := (blk_cell hx2 3).trans rfl; have s3 := blk_frozen hx2 3; have c4 := (blk_cell hx2 4).trans rfl; have s4 := blk_frozen hx2 4; have HM := Aside0.mk hm; have HB4 := Aside0.mk (below_step HB3.out hb4); have HX2 := Aside0.mk hx2; have HY2 := Aside0.mk hy2; clear hm hb4 hx2 hy2)
    have ho := own_made HM.out HX2.out (base := w.heap.size) HB3.out.size (Nat.le_refl _)
    have SS := same5 w4 w.heap.size (.int .i64 (stopF l i x).tm) (.slice g1 n1 d1) (.slice g2 n2 d2) (.slice g3 n3 d3) (.slice g4 n4 d4)
    have hb := below_same HB4.out SS (Nat.le_refl _)
    have hY := blk_same HY2.out SS (by omega)
    clear z0 z1 z2 z3 z4 f0 f1 f2 f3 f4 b0 b1 b2 b3 b4 c0 c1 c2 c3 c4 s0 s1 s2 s3 s4 HM HB4 HX2 HY2 SS HO3 HY3 HO HY HB HX
    generalize (((((w4.setCell ⟨w.heap.size, 0, none⟩ (.int .i64 (stopF l i x).tm)).setCell ⟨w.heap.size, 1, none⟩ (.slice g1 n1 d1)).setCell ⟨w.heap.size, 2, none⟩ (.slice g2 n2 d2)).setCell ⟨w.heap.size, 3, none⟩ (.slice g3 n3 d3)).setCell ⟨w.heap.size, 4, none⟩ (.slice g4 n4 d4)) = W3 at ho hb hY ⊢
    obtain ⟨h1, b1, h2, b2, h3, b3, h4, b4, e1, e2, e3, e4⟩ := ho.form (stop_lens (l := l) (i := i) (n := l.length) HV.out.len) (by have := HV.out.snd.len; omega)
    cases e1; cases e2; cases e3; cases e4
    obtain ⟨_, _, _, _, n3, n4, _, _, p3, p4, _, _, ⟨cs3, hc3⟩, ⟨cs4, hc4⟩⟩ := ho.facts
    obtain ⟨E, F⟩ := ho.cell4 i i0 i1
    have m3 : h4 ≠ w.heap.size + 1 := blk_ne hc4 hY (by decide)
    have k0 : W3.cell? ⟨w.heap.size, 0, none⟩ = some (.int .i64 (stopF l i x).tm) := (blk_cell ho.box 0).trans rfl; have k1 : W3.cell? ⟨w.heap.size, 1, none⟩ = some (.slice (some ⟨h1, 0, none⟩) l.length d1) := (blk_cell ho.box 1).trans rfl; have k2 : W3.cell? ⟨w.heap.size, 2, none⟩ = some (.slice (some ⟨h2, 0, none⟩) l.length d2) := (blk_cell ho.box 2).trans rfl; have k3 : W3.cell? ⟨w.heap.size, 3, none⟩ = some (.slice (some ⟨h3, 0, none⟩) l.length d3) := (blk_cell ho.box 3).trans rfl; have k4 : W3.cell? ⟨w.heap.size, 4, none⟩ = some (.slice (some ⟨h4, 0, none⟩) l.length d4) := (blk_cell ho.box 4).trans rfl
    have z0 : W3.cell? ⟨w.heap.size + 1, 0, none⟩ = some (Value.int IntKind.i64 0) := (blk_cell hY 0).trans rfl; have f0 := blk_frozen hY 0; have z1 : W3.cell? ⟨w.heap.size + 1, 1, none⟩ = some (Value.slice none 0 0) := (blk_cell hY 1).trans rfl; have f1 := blk_frozen hY 1; have z2 : W3.cell? ⟨w.heap.size + 1, 2, none⟩ = some (Value.slice none 0 0) := (blk_cell hY 2).trans rfl; have f2 := blk_frozen hY 2; have z3 : W3.cell? ⟨w.heap.size + 1, 3, none⟩ = some (Value.slice none 0 0) := (blk_cell hY 3).trans rfl; have f3 := blk_frozen hY 3; have z4 : W3.cell? ⟨w.heap.size + 1, 4, none⟩ = some (Value.slice none 0 0) := (blk_cell hY 4).trans rfl; have f4 := blk_frozen hY 4
    have HO := Aside0.mk ho
    have HB := Aside0.mk hb
    have HY3 := Aside0.mk hY
    have HC3 := Aside0.mk hc4
    clear ho hb hY hc3 hc4
    go_wp2_with fail
    have o2 := HO.out.setHe HO.out.len4 n4 HC3.out i true
    have hy5 := blk_far (p := ⟨h4, i.toNat, none⟩) HY3.out (Ne.symm m3) (.bool true)
    have bl := below_set (j := i.toNat) (v := .bool true) HB.out p4
    refine bodyPost_ret (results_ct rfl _ _ (w.heap.size + 1) 34 #[.int .i64 (stopF l i x).tm, .slice (some ⟨h1, 0, none⟩) l.length d1, .slice (some ⟨h2, 0, none⟩) l.length d2, .slice (some ⟨h3, 0, none⟩) l.length d3, .slice (some ⟨h4, 0, none⟩) l.length d4] (0, 0) _ rfl (set5 hy5 _ _ _ _ _) hu34 rfl (by kernel_rfl)) rfl ?_
    exact give_own (y := holdF l i true x) o2 hy5 (by omega) bl
  · have hS : holdG l x i true = (x, E) := by unfold holdG; rw [if_pos (by rw [hE]; exact h0), hE]
    rw [hS]
    have HE := Aside0.mk hE
    have t0 : (E != 0) = true := by simp [h0]
    clear hS hE h0
    go_enter Try.func50, Try.ntmps50
    go_upto_region 2 with (go_at_call 23; (with_reducible refine (rcopy_calls x a _ (HX.out.below (by repeat (first | exact Below.refl _ _ | apply below_alloc))) HZ.out).mono ?_); rintro e w1 ⟨v1, v2, v3, v4, rfl, hm, hb1⟩; have hbx := blk_below (blk_alloc (blk_new w _) _) hb1; have hby := blk_below (blk2 w _ _) hb1; obtain ⟨g1, n1, y1, rfl⟩ := R_sl hm.r1; obtain ⟨g2, n2, y2, rfl⟩ := R_sl hm.r2; obtain ⟨g3, n3, y3, rfl⟩ := R_sl hm.r3; obtain ⟨g4, n4, y4, rfl⟩ := R_sl hm.r4; have b0 := (blk_cell hbx 0).trans rfl; have b1 := (blk_cell hbx 1).trans rfl; have b2 := (blk_cell hbx 2).trans rfl; have b3 := (blk_cell hbx 3).trans rfl; have b4 := (blk_cell hbx 4).trans rfl; have f0 := blk_frozen hbx 0; have f1 := blk_frozen hbx 1; have f2 := blk_frozen hbx 2; have f3 := blk_frozen hbx 3; have f4 := blk_frozen hbx 4; have HM := Aside0.mk hm; have HBX := Aside0.mk hbx; have HBY := Aside0.mk hby; have HB1 := Aside0.mk hb1; clear hm hbx hby hb1)
    have hO := own_made HM.out HBX.out (base := w.heap.size) (by simp only [World.size_alloc]; omega) (Nat.le_refl _)
    have hb := below_same (below_step (w := w) (by repeat (first | exact Below.refl _ _ | apply below_alloc)) HB1.out) (same5 w1 w.heap.size (.int .i64 x.tm) (.slice g1 n1 y1) (.slice g2 n2 y2) (.slice g3 n3 y3) (.slice g4 n4 y4)) (Nat.le_refl _)
    have hY := blk_same HBY.out (same5 w1 w.heap.size (.int .i64 x.tm) (.slice g1 n1 y1) (.slice g2 n2 y2) (.slice g3 n3 y3) (.slice g4 n4 y4)) (by omega)
    clear b0 b1 b2 b3 b4 f0 f1 f2 f3 f4 HM HBX HBY HB1
    generalize (((((w1.setCell ⟨w.heap.size, 0, none⟩ (.int .i64 x.tm)).setCell ⟨w.heap.size, 1, none⟩ (.slice g1 n1 y1)).setCell ⟨w.heap.size, 2, none⟩ (.slice g2 n2 y2)).setCell ⟨w.heap.size, 3, none⟩ (.slice g3 n3 y3)).setCell ⟨w.heap.size, 4, none⟩ (.slice g4 n4 y4)) = W2 at hO hb hY ⊢
    obtain rfl := hO.len1
    obtain rfl := hO.len2
    obtain rfl := hO.len3
    obtain rfl := hO.len4
    have b0 : W2.cell? ⟨w.heap.size, 0, none⟩ = some (.int .i64 x.tm) := (blk_cell hO.box 0).trans rfl; have b1 : W2.cell? ⟨w.heap.size, 1, none⟩ = some (.slice g1 x.st.length y1) := (blk_cell hO.box 1).trans rfl; have b2 : W2.cell? ⟨w.heap.size, 2, none⟩ = some (.slice g2 x.si.length y2) := (blk_cell hO.box 2).trans rfl; have b3 : W2.cell? ⟨w.heap.size, 3, none⟩ = some (.slice g3 x.pu.length y3) := (blk_cell hO.box 3).trans rfl; have b4 : W2.cell? ⟨w.heap.size, 4, none⟩ = some (.slice g4 x.he.length y4) := (blk_cell hO.box 4).trans rfl
    have HO := Aside0.mk hO
    have HB := Aside0.mk hb
    have HY := Aside0.mk hY
    clear hO hb hY
    go_wp2_with (go_at_call 57; (with_reducible refine (rcheck_calls l A c x ⟨g1, y1, g2, y2, g3, y3, g4, y4⟩ i _ (Kd.C_below HL.out HB.out) HC.out HF.out HO.out.LC).mono ?_); rintro e w3 ⟨rfl, hb3⟩; rw [HE.out]; have ho3 := HO.out.below hb3; have hy3 := blk_below HY.out hb3; have b0 : w3.cell? ⟨w.heap.size, 0, none⟩ = some (.int .i64 x.tm) := (blk_cell ho3.box 0).trans rfl; have b1 : w3.cell? ⟨w.heap.size, 1, none⟩ = some (.slice g1 x.st.length y1) := (blk_cell ho3.box 1).trans rfl; have b2 : w3.cell? ⟨w.heap.size, 2, none⟩ = some (.slice g2 x.si.length y2) := (blk_cell ho3.box 2).trans rfl; have b3 : w3.cell? ⟨w.heap.size, 3, none⟩ = some (.slice g3 x.pu.length y3) := (blk_cell ho3.box 3).trans rfl; have b4 : w3.cell? ⟨w.heap.size, 4, none⟩ = some (.slice g4 x.he.length y4) := (blk_cell ho3.box 4).trans rfl; have z0 : w3.cell? ⟨w.heap.size + 1, 0, none⟩ = some (Value.int IntKind.i64 0) := (blk_cell hy3 0).trans rfl; have f0 := blk_frozen hy3 0; have z1 : w3.cell? ⟨w.heap.size + 1, 1, none⟩ = some (Value.slice none 0 0) := (blk_cell hy3 1).trans rfl; have f1 := blk_frozen hy3 1; have z2 : w3.cell? ⟨w.heap.size + 1, 2, none⟩ = some (Value.slice none 0 0) := (blk_cell hy3 2).trans rfl; have f2 := blk_frozen hy3 2; have z3 : w3.cell? ⟨w.heap.size + 1, 3, none⟩ = some (Value.slice none 0 0) := (blk_cell hy3 3).trans rfl; have f3 := blk_frozen hy3 3; have z4 : w3.cell? ⟨w.heap.size + 1, 4, none⟩ = some (Value.slice none 0 0) := (blk_cell hy3 4).trans rfl; have f4 := blk_frozen hy3 4; have HO3 := Aside0.mk ho3; have HY3 := Aside0.mk hy3; have HB3 := Aside0.mk (below_step HB.out hb3); clear ho3 hy3 hb3)
    refine bodyPost_ret (results_ct rfl _ _ (w.heap.size + 1) 34 #[.int .i64 x.tm, .slice g1 x.st.length y1, .slice g2 x.si.length y2, .slice g3 x.pu.length y3, .slice g4 x.he.length y4] (0, 0) _ rfl (set5 HY3.out _ _ _ _ _) hu34 rfl (by kernel_rfl)) rfl ?_
    exact give_own HO3.out HY3.out (by omega) HB3.out
theorem rholdG_calls (l : List S31) (A : Option Addr) (c : Nat) (x : Ln) (a : La) (i : Int) (b : Bool) (w : World) (hl : Kd.C k31 w A l.length l) (hc : l.length ≤ c) (hfit : Fit l.length) (hx : LC w a x) (hz : Lz x) :
    Calls Try.prog 50 #[.slice A l.length c, .agg #[.int .i64 x.tm, .slice a.A1 x.st.length a.c1, .slice a.A2 x.si.length a.c2, .slice a.A3 x.pu.length a.c3, .slice a.A4 x.he.length a.c4], .int .i64 i, .bool b] w (GivesM w (holdG l x i b).1 (holdG l x i b).2) := by
  cases b
  · exact rholdG_false l A c x a i w hl hc hfit hx hz
  · exact rholdG_true l A c x a i w hl hc hfit hx hz

end Go.Proofs.Ytejmjeanhlkenaa.HandA
