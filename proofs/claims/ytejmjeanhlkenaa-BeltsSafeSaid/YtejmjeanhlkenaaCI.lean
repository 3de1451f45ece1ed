import Derived.Test.YtejmjeanhlkenaaCZ
/- Wait, Stop, Pull, Restore and Hold, walked. -/
namespace Go.Proofs.Ytejmjeanhlkenaa.HandA
open Go.RowKit Go.Proofs.Ytejmjeanhlkenaa.PB Go.Proofs.YtejmjeanhlkenaaW.PrintWords Go.Proofs.YtejmjeanhlkenaaW.PrintLast Go.Proofs.YtejmjeanhlkenaaW.PrintMore
set_option linter.unusedVariables false
set_option linter.unusedSimpArgs false
theorem R_sl {α : Type} {d : Kd α} {e base : Nat} {ok : Nat → Prop} {w : World} {v : Value} {xs : List α} (h : d.R e w base ok v xs) : ∃ A n c, v = .slice A n c := by
  obtain ⟨A, c, he⟩ := Kd.R_slice h
  exact ⟨A, _, c, he⟩
/-- A line that was made is returned. -/
theorem gives_made' {x0 : Ln} {a0 : La} {y : Ln} {w w0 w1 : World} {B : Nat} {g1 g2 g3 g4 : Option Addr} {n1 n2 n3 n4 d1 d2 d3 d4 : Nat} {err : Int} (hB : w.heap.size ≤ B) (hlt : B < w0.heap.size) (h0 : Below w.heap.size w w0) (hb : Below w0.heap.size w0 w1) (hm : Made w1 w0.heap.size (.slice g1 n1 d1) (.slice g2 n2 d2) (.slice g3 n3 d3) (.slice g4 n4 d4) y) :
    Gives w x0 a0 y err (.returned (.tuple #[.agg #[.int .i64 y.tm, .slice g1 n1 d1, .slice g2 n2 d2, .slice g3 n3 d3, .slice g4 n4 d4], .int .i64 err]))
      (((((w1.setCell ⟨B, 0, none⟩ (.int .i64 y.tm)).setCell ⟨B, 1, none⟩ (.slice g1 n1 d1)).setCell ⟨B, 2, none⟩ (.slice g2 n2 d2)).setCell ⟨B, 3, none⟩ (.slice g3 n3 d3)).setCell ⟨B, 4, none⟩ (.slice g4 n4 d4)) := by
  obtain ⟨a, e1, e2, e3, e4, hl⟩ := hm.form
  have a1 : n1 = y.st.length := by cases e1; rfl
  have a2 : n2 = y.si.length := by cases e2; rfl
  have a3 : n3 = y.pu.length := by cases e3; rfl
  have a4 : n4 = y.he.length := by cases e4; rfl
  subst a1 a2 a3 a4
  exact gives_made hB hlt h0 hb hm
noncomputable def waitG (l : List S31) (x : Ln) (t : Int) : Ln × Int := if vlB l x = false then (x, 6) else if ¬ (x.tm ≤ t ∧ t ≤ 2147483648) then (x, 8) else (waitN l t l.length x, 0)
noncomputable def stopG (l : List S31) (x : Ln) (i : Int) : Ln × Int := if chk l x i ≠ 0 then (x, chk l x i) else (stopF l i x, 0)
def pullF (l : List S31) (i : Int) (x : Ln) : Ln := { stopF l i x with pu := x.pu.set i.toNat true }
noncomputable def pullG (l : List S31) (x : Ln) (i : Int) : Ln × Int := if chk l x i ≠ 0 then (x, chk l x i) else (pullF l i x, 0)
def restF (i : Int) (x : Ln) : Ln := { x with pu := x.pu.set i.toNat false }
noncomputable def restG (l : List S31) (x : Ln) (i : Int) : Ln × Int := if chk l x i ≠ 0 then (x, chk l x i) else if rdOf false x.pu i = false then (x, 10) else (restF i x, 0)
def holdF (l : List S31) (i : Int) (b : Bool) (x : Ln) : Ln := if b = true then { stopF l i x with he := x.he.set i.toNat true } else { x with he := x.he.set i.toNat false }
noncomputable def holdG (l : List S31) (x : Ln) (i : Int) (b : Bool) : Ln × Int := if chk l x i ≠ 0 then (x, chk l x i) else (holdF l i b x, 0)
theorem pull_change' (l : List S31) (A : Option Addr) (c : Nat) (x : Ln) (i : Int) (L I : Nat) (w : World) (hl : Kd.C k31 w A l.length l) (hs : Snd l) (hx : Lens x l.length) (h0 : 0 ≤ i) (h1 : i < l.length)
    (hL : w.cell? ⟨L, 0, none⟩ = some (.slice A l.length c)) (hI : w.cell? ⟨I, 0, none⟩ = some (.int .i64 i)) : Change Try.prog w 35 #[.pointer (some ⟨L, 0, none⟩), .pointer (some ⟨I, 0, none⟩)] x (pullF l i x) := pull_change l A c x i L I w hl hs hx h0 h1 hL hI
theorem restore_change' (x : Ln) (i : Int) (I N : Nat) (w : World) (hN : 0 < N) (hx : Lens x N) (h0 : 0 ≤ i) (h1 : i < N) (hI : w.cell? ⟨I, 0, none⟩ = some (.int .i64 i)) : Change Try.prog w 52 #[.pointer (some ⟨I, 0, none⟩)] x (restF i x) := restore_change x i I N w hN hx h0 h1 hI
theorem hold_change' (l : List S31) (A : Option Addr) (c : Nat) (x : Ln) (i : Int) (b : Bool) (H L I : Nat) (w : World) (hl : Kd.C k31 w A l.length l) (hs : Snd l) (hx : Lens x l.length) (h0 : 0 ≤ i) (h1 : i < l.length)
    (hH : w.cell? ⟨H, 0, none⟩ = some (.bool b)) (hL : w.cell? ⟨L, 0, none⟩ = some (.slice A l.length c)) (hI : w.cell? ⟨I, 0, none⟩ = some (.int .i64 i)) :
    Change Try.prog w 53 #[.pointer (some ⟨H, 0, none⟩), .pointer (some ⟨L, 0, none⟩), .pointer (some ⟨I, 0, none⟩)] x (holdF l i b x) := hold_change l A c x i b H L I w hl hs hx h0 h1 hH hL hI
/-- The blocks made at a function's begin. -/
theorem blkA (w : World) (o0 o1 o2 o3 : Obj) : ((((w.alloc o0).alloc o1).alloc o2).alloc o3).heap[w.heap.size]? = some o0 := blk_alloc (blk_alloc (blk_alloc (blk_new w o0) o1) o2) o3
theorem blkA1 (w : World) (o0 o1 o2 o3 : Obj) : ((((w.alloc o0).alloc o1).alloc o2).alloc o3).heap[w.heap.size + 1]? = some o1 := by
  have := blkA (w.alloc o0) o1 o2 o3
  have h := blk_alloc (blk_alloc (blk_new (w.alloc o0) o1) o2) o3
  simpa using h
theorem blkA2 (w : World) (o0 o1 o2 o3 : Obj) : ((((w.alloc o0).alloc o1).alloc o2).alloc o3).heap[w.heap.size + 2]? = some o2 := by
  have h := blk_alloc (blk_new ((w.alloc o0).alloc o1) o2) o3
  simpa using h
theorem vl_si {l : List S31} {x : Ln} (h : Vl l x) : ∀ k : Nat, k < l.length → 0 ≤ rd x.si k ∧ rd x.si k ≤ 2147483648 := fun k hk => by
  have := (h.row k (by omega) (by omega)).2.1
  have := h.tm
  omega


set_option maxHeartbeats 4000000 in
set_option maxRecDepth 100000 in
theorem stopG_calls (l : List S31) (A : Option Addr) (c : Nat) (x : Ln) (a : La) (i : Int) (w : World) (hl : Kd.C k31 w A l.length l) (hc : l.length ≤ c) (hfit : Fit l.length) (hx : LC w a x) :
    Calls Try.prog 24 #[.slice A l.length c, .agg #[.int .i64 x.tm, .slice a.A1 x.st.length a.c1, .slice a.A2 x.si.length a.c2, .slice a.A3 x.pu.length a.c3, .slice a.A4 x.he.length a.c4], .int .i64 i] w (Gives w x a (stopG l x i).1 (stopG l x i).2) := by
  have HL := Aside0.mk hl
  have HC := Aside0.mk hc
  have HX := Aside0.mk hx
  have HF := Aside0.mk hfit
  have hu34 := Try.underlying34
  clear hl hc hfit hx
  obtain ⟨E, hE⟩ : ∃ E, chk l x i = E := ⟨_, rfl⟩
  by_cases h0 : E = 0
  · subst h0
    obtain ⟨hv, i0, i1⟩ := chk_zero hE
    have HE := Aside0.mk hE
    have HV := Aside0.mk hv
    have hS : stopG l x i = (stopF l i x, 0) := by unfold stopG; rw [if_neg (by rw [hE]; simp)]
    rw [hS]
    clear hv hE hS
    go_enter Try.func24, Try.ntmps24
    go_wp2_with (first | (go_at_call 30; (with_reducible refine (checked_calls l A c x a i _ (Kd.C_below HL.out (by repeat (first | exact Below.refl _ _ | apply below_alloc))) HC.out HF.out (HX.out.below (by repeat (first | exact Below.refl _ _ | apply below_alloc)))).mono ?_); rintro e w1 ⟨rfl, hb1⟩; rw [HE.out]; obtain ⟨hc1, hf1⟩ := bcell hb1; have q0 := fun o => hc1 (w.heap.size) o (by simp only [World.size_alloc]; omega); have q1 := fun o => hc1 (w.heap.size + 1) o (by simp only [World.size_alloc]; omega); have q2 := fun o => hc1 (w.heap.size + 2) o (by simp only [World.size_alloc]; omega); have q3 := fun o => hc1 (w.heap.size + 3) o (by simp only [World.size_alloc]; omega); have p3 := fun o => hf1 (w.heap.size + 3) o (by simp only [World.size_alloc]; omega); have HY := Aside0.mk (blk_below (blk4 _ _ _ _ _) hb1); have HB1 := Aside0.mk (below_step (w := w) (by repeat (first | exact Below.refl _ _ | apply below_alloc)) hb1); have kL : w1.cell? ⟨w.heap.size, 0, none⟩ = some (.slice A l.length c) := (blk_cell (blk_below (blkA w _ _ _ _) hb1) 0).trans rfl; have kI : w1.cell? ⟨w.heap.size + 2, 0, none⟩ = some (.int .i64 i) := (blk_cell (blk_below (blkA2 w _ _ _ _) hb1) 0).trans rfl; clear hc1 hf1 hb1) | (go_at_call 31; (with_reducible refine (done_calls a x (stopF l i x) 51 _ #[.pointer (some ⟨w.heap.size, 0, none⟩), .pointer (some ⟨w.heap.size + 2, 0, none⟩)] _ (HX.out.below (by repeat (first | exact HB1.out | apply pw_below_drewN))) (vl_lz HV.out) Try.func51 rfl rfl (stop_change l A c x i w.heap.size (w.heap.size + 2) _ (Kd.C_below HL.out HB1.out) HV.out.snd HV.out.len kL kI)).mono ?_); rintro e w2 ⟨v1, v2, v3, v4, rfl, hm, hb2⟩; obtain ⟨g1, n1, y1, rfl⟩ := R_sl hm.r1; obtain ⟨g2, n2, y2, rfl⟩ := R_sl hm.r2; obtain ⟨g3, n3, y3, rfl⟩ := R_sl hm.r3; obtain ⟨g4, n4, y4, rfl⟩ := R_sl hm.r4; have hy2 := blk_below HY.out hb2; have r0 := (blk_cell hy2 0).trans rfl; have r1 := (blk_cell hy2 1).trans rfl; have r2 := (blk_cell hy2 2).trans rfl; have r3 := (blk_cell hy2 3).trans rfl; have r4 := (blk_cell hy2 4).trans rfl; have f0 := blk_frozen hy2 0; have f1 := blk_frozen hy2 1; have f2 := blk_frozen hy2 2; have f3 := blk_frozen hy2 3; have f4 := blk_frozen hy2 4; have HM := Aside0.mk hm; have HB2 := Aside0.mk hb2; have HY2 := Aside0.mk hy2; clear hm hb2 hy2))
    refine bodyPost_ret (results_ct rfl _ _ (w.heap.size + 3) 34 #[.int .i64 (stopF l i x).tm, .slice g1 n1 y1, .slice g2 n2 y2, .slice g3 n3 y3, .slice g4 n4 y4] (0, 0) _ rfl (set5 HY2.out _ _ _ _ _) hu34 rfl (by kernel_rfl)) rfl ?_
    exact gives_made' (y := stopF l i x) (by omega) (blk_lt HY.out) (by repeat (first | exact HB1.out | apply pw_below_drewN)) HB2.out HM.out
  · have hS : stopG l x i = (x, E) := by unfold stopG; rw [if_pos (by rw [hE]; exact h0), hE]
    rw [hS]
    have HE := Aside0.mk hE
    have t0 : (E != 0) = true := by simp [h0]
    clear hS hE h0
    go_enter Try.func24, Try.ntmps24
    go_wp2_with (go_at_call 30; (with_reducible refine (checked_calls l A c x a i _ (Kd.C_below HL.out (by repeat (first | exact Below.refl _ _ | apply below_alloc))) HC.out HF.out (HX.out.below (by repeat (first | exact Below.refl _ _ | apply below_alloc)))).mono ?_); rintro e w1 ⟨rfl, hb1⟩; rw [HE.out]; obtain ⟨hc1, hf1⟩ := bcell hb1; have q0 := fun o => hc1 (w.heap.size) o (by simp only [World.size_alloc]; omega); have q1 := fun o => hc1 (w.heap.size + 1) o (by simp only [World.size_alloc]; omega); have q2 := fun o => hc1 (w.heap.size + 2) o (by simp only [World.size_alloc]; omega); have q3 := fun o => hc1 (w.heap.size + 3) o (by simp only [World.size_alloc]; omega); have p3 := fun o => hf1 (w.heap.size + 3) o (by simp only [World.size_alloc]; omega); have HY := Aside0.mk (blk_below (blk4 _ _ _ _ _) hb1); have HB1 := Aside0.mk (below_step (w := w) (by repeat (first | exact Below.refl _ _ | apply below_alloc)) hb1); clear hc1 hf1 hb1)
    refine bodyPost_ret (results_ct rfl _ _ (w.heap.size + 3) 34 #[.int .i64 x.tm, .slice a.A1 x.st.length a.c1, .slice a.A2 x.si.length a.c2, .slice a.A3 x.pu.length a.c3, .slice a.A4 x.he.length a.c4] (0, 0) _ rfl (set5 HY.out _ _ _ _ _) hu34 rfl (by kernel_rfl)) rfl ?_
    exact gives_ret (by omega) HB1.out HX.out
set_option maxHeartbeats 4000000 in
set_option maxRecDepth 100000 in
theorem pullG_calls (l : List S31) (A : Option Addr) (c : Nat) (x : Ln) (a : La) (i : Int) (w : World) (hl : Kd.C k31 w A l.length l) (hc : l.length ≤ c) (hfit : Fit l.length) (hx : LC w a x) :
    Calls Try.prog 15 #[.slice A l.length c, .agg #[.int .i64 x.tm, .slice a.A1 x.st.length a.c1, .slice a.A2 x.si.length a.c2, .slice a.A3 x.pu.length a.c3, .slice a.A4 x.he.length a.c4], .int .i64 i] w (Gives w x a (pullG l x i).1 (pullG l x i).2) := by
  have HL := Aside0.mk hl
  have HC := Aside0.mk hc
  have HX := Aside0.mk hx
  have HF := Aside0.mk hfit
  have hu34 := Try.underlying34
  clear hl hc hfit hx
  obtain ⟨E, hE⟩ : ∃ E, chk l x i = E := ⟨_, rfl⟩
  by_cases h0 : E = 0
  · subst h0
    obtain ⟨hv, i0, i1⟩ := chk_zero hE
    have HE := Aside0.mk hE
    have HV := Aside0.mk hv
    have hS : pullG l x i = (pullF l i x, 0) := by unfold pullG; rw [if_neg (by rw [hE]; simp)]
    rw [hS]
    clear hv hE hS
    go_enter Try.func15, Try.ntmps15
    go_wp2_with (first | (go_at_call 30; (with_reducible refine (checked_calls l A c x a i _ (Kd.C_below HL.out (by repeat (first | exact Below.refl _ _ | apply below_alloc))) HC.out HF.out (HX.out.below (by repeat (first | exact Below.refl _ _ | apply below_alloc)))).mono ?_); rintro e w1 ⟨rfl, hb1⟩; rw [HE.out]; obtain ⟨hc1, hf1⟩ := bcell hb1; have q0 := fun o => hc1 (w.heap.size) o (by simp only [World.size_alloc]; omega); have q1 := fun o => hc1 (w.heap.size + 1) o (by simp only [World.size_alloc]; omega); have q2 := fun o => hc1 (w.heap.size + 2) o (by simp only [World.size_alloc]; omega); have q3 := fun o => hc1 (w.heap.size + 3) o (by simp only [World.size_alloc]; omega); have p3 := fun o => hf1 (w.heap.size + 3) o (by simp only [World.size_alloc]; omega); have HY := Aside0.mk (blk_below (blk4 _ _ _ _ _) hb1); have HB1 := Aside0.mk (below_step (w := w) (by repeat (first | exact Below.refl _ _ | apply below_alloc)) hb1); have kL : w1.cell? ⟨w.heap.size, 0, none⟩ = some (.slice A l.length c) := (blk_cell (blk_below (blkA w _ _ _ _) hb1) 0).trans rfl; have kI : w1.cell? ⟨w.heap.size + 2, 0, none⟩ = some (.int .i64 i) := (blk_cell (blk_below (blkA2 w _ _ _ _) hb1) 0).trans rfl; clear hc1 hf1 hb1) | (go_at_call 31; (with_reducible refine (done_calls a x (pullF l i x) 35 _ #[.pointer (some ⟨w.heap.size, 0, none⟩), .pointer (some ⟨w.heap.size + 2, 0, none⟩)] _ (HX.out.below (by repeat (first | exact HB1.out | apply pw_below_drewN))) (vl_lz HV.out) Try.func35 rfl rfl (pull_change' l A c x i w.heap.size (w.heap.size + 2) _ (Kd.C_below HL.out HB1.out) HV.out.snd HV.out.len i0 i1 kL kI)).mono ?_); rintro e w2 ⟨v1, v2, v3, v4, rfl, hm, hb2⟩; obtain ⟨g1, n1, y1, rfl⟩ := R_sl hm.r1; obtain ⟨g2, n2, y2, rfl⟩ := R_sl hm.r2; obtain ⟨g3, n3, y3, rfl⟩ := R_sl hm.r3; obtain ⟨g4, n4, y4, rfl⟩ := R_sl hm.r4; have hy2 := blk_below HY.out hb2; have r0 := (blk_cell hy2 0).trans rfl; have r1 := (blk_cell hy2 1).trans rfl; have r2 := (blk_cell hy2 2).trans rfl; have r3 := (blk_cell hy2 3).trans rfl; have r4 := (blk_cell hy2 4).trans rfl; have f0 := blk_frozen hy2 0; have f1 := blk_frozen hy2 1; have f2 := blk_frozen hy2 2; have f3 := blk_frozen hy2 3; have f4 := blk_frozen hy2 4; have HM := Aside0.mk hm; have HB2 := Aside0.mk hb2; have HY2 := Aside0.mk hy2; clear hm hb2 hy2))
    refine bodyPost_ret (results_ct rfl _ _ (w.heap.size + 3) 34 #[.int .i64 (pullF l i x).tm, .slice g1 n1 y1, .slice g2 n2 y2, .slice g3 n3 y3, .slice g4 n4 y4] (0, 0) _ rfl (set5 HY2.out _ _ _ _ _) hu34 rfl (by kernel_rfl)) rfl ?_
    exact gives_made' (y := pullF l i x) (by omega) (blk_lt HY.out) (by repeat (first | exact HB1.out | apply pw_below_drewN)) HB2.out HM.out
  · have hS : pullG l x i = (x, E) := by unfold pullG; rw [if_pos (by rw [hE]; exact h0), hE]
    rw [hS]
    have HE := Aside0.mk hE
    have t0 : (E != 0) = true := by simp [h0]
    clear hS hE h0
    go_enter Try.func15, Try.ntmps15
    go_wp2_with (go_at_call 30; (with_reducible refine (checked_calls l A c x a i _ (Kd.C_below HL.out (by repeat (first | exact Below.refl _ _ | apply below_alloc))) HC.out HF.out (HX.out.below (by repeat (first | exact Below.refl _ _ | apply below_alloc)))).mono ?_); rintro e w1 ⟨rfl, hb1⟩; rw [HE.out]; obtain ⟨hc1, hf1⟩ := bcell hb1; have q0 := fun o => hc1 (w.heap.size) o (by simp only [World.size_alloc]; omega); have q1 := fun o => hc1 (w.heap.size + 1) o (by simp only [World.size_alloc]; omega); have q2 := fun o => hc1 (w.heap.size + 2) o (by simp only [World.size_alloc]; omega); have q3 := fun o => hc1 (w.heap.size + 3) o (by simp only [World.size_alloc]; omega); have p3 := fun o => hf1 (w.heap.size + 3) o (by simp only [World.size_alloc]; omega); have HY := Aside0.mk (blk_below (blk4 _ _ _ _ _) hb1); have HB1 := Aside0.mk (below_step (w := w) (by repeat (first | exact Below.refl _ _ | apply below_alloc)) hb1); clear hc1 hf1 hb1)
    refine bodyPost_ret (results_ct rfl _ _ (w.heap.size + 3) 34 #[.int .i64 x.tm, .slice a.A1 x.st.length a.c1, .slice a.A2 x.si.length a.c2, .slice a.A3 x.pu.length a.c3, .slice a.A4 x.he.length a.c4] (0, 0) _ rfl (set5 HY.out _ _ _ _ _) hu34 rfl (by kernel_rfl)) rfl ?_
    exact gives_ret (by omega) HB1.out HX.out
set_option maxHeartbeats 4000000 in
set_option maxRecDepth 100000 in
theorem holdG_calls (l : List S31) (A : Option Addr) (c : Nat) (x : Ln) (a : La) (i : Int) (b : Bool) (w : World) (hl : Kd.C k31 w A l.length l) (hc : l.length ≤ c) (hfit : Fit l.length) (hx : LC w a x) :
    Calls Try.prog 26 #[.slice A l.length c, .agg #[.int .i64 x.tm, .slice a.A1 x.st.length a.c1, .slice a.A2 x.si.length a.c2, .slice a.A3 x.pu.length a.c3, .slice a.A4 x.he.length a.c4], .int .i64 i, .bool b] w (Gives w x a (holdG l x i b).1 (holdG l x i b).2) := by
  have HL := Aside0.mk hl
  have HC := Aside0.mk hc
  have HX := Aside0.mk hx
  have HF := Aside0.mk hfit
  have hu34 := Try.underlying34
  clear hl hc hfit hx
  obtain ⟨E, hE⟩ : ∃ E, chk l x i = E := ⟨_, rfl⟩
  by_cases h0 : E = 0
  · subst h0
    obtain ⟨hv, i0, i1⟩ := chk_zero hE
    have HE := Aside0.mk hE
    have HV := Aside0.mk hv
    have hS : holdG l x i b = (holdF l i b x, 0) := by unfold holdG; rw [if_neg (by rw [hE]; simp)]
    rw [hS]
    clear hv hE hS
    go_enter Try.func26, Try.ntmps26
    go_wp2_with (first | (go_at_call 30; (with_reducible refine (checked_calls l A c x a i _ (Kd.C_below HL.out (by repeat (first | exact Below.refl _ _ | apply below_alloc))) HC.out HF.out (HX.out.below (by repeat (first | exact Below.refl _ _ | apply below_alloc)))).mono ?_); rintro e w1 ⟨rfl, hb1⟩; rw [HE.out]; obtain ⟨hc1, hf1⟩ := bcell hb1; have q0 := fun o => hc1 (w.heap.size) o (by simp only [World.size_alloc]; omega); have q1 := fun o => hc1 (w.heap.size + 1) o (by simp only [World.size_alloc]; omega); have q2 := fun o => hc1 (w.heap.size + 2) o (by simp only [World.size_alloc]; omega); have q3 := fun o => hc1 (w.heap.size + 3) o (by simp only [World.size_alloc]; omega); have q4 := fun o => hc1 (w.heap.size + 4) o (by simp only [World.size_alloc]; omega); have p4 := fun o => hf1 (w.heap.size + 4) o (by simp only [World.size_alloc]; omega); have HY := Aside0.mk (blk_below (blk5 _ _ _ _ _ _) hb1); have HB1 := Aside0.mk (below_step (w := w) (by repeat (first | exact Below.refl _ _ | apply below_alloc)) hb1); have kL : w1.cell? ⟨w.heap.size, 0, none⟩ = some (.slice A l.length c) := (blk_cell (blk_below (blk_alloc (blkA w _ _ _ _) _) hb1) 0).trans rfl; have kI : w1.cell? ⟨w.heap.size + 2, 0, none⟩ = some (.int .i64 i) := (blk_cell (blk_below (blk_alloc (blkA2 w _ _ _ _) _) hb1) 0).trans rfl; have kH : w1.cell? ⟨w.heap.size + 3, 0, none⟩ = some (.bool b) := (blk_cell (blk_below (blk_alloc (blk4 w _ _ _ _) _) hb1) 0).trans rfl; clear hc1 hf1 hb1) | (go_at_call 31; (with_reducible refine (done_calls a x (holdF l i b x) 53 _ #[.pointer (some ⟨w.heap.size + 3, 0, none⟩), .pointer (some ⟨w.heap.size, 0, none⟩), .pointer (some ⟨w.heap.size + 2, 0, none⟩)] _ (HX.out.below (by repeat (first | exact HB1.out | apply pw_below_drewN))) (vl_lz HV.out) Try.func53 rfl rfl (hold_change' l A c x i b (w.heap.size + 3) w.heap.size (w.heap.size + 2) _ (Kd.C_below HL.out HB1.out) HV.out.snd HV.out.len i0 i1 kH kL kI)).mono ?_); rintro e w2 ⟨v1, v2, v3, v4, rfl, hm, hb2⟩; obtain ⟨g1, n1, y1, rfl⟩ := R_sl hm.r1; obtain ⟨g2, n2, y2, rfl⟩ := R_sl hm.r2; obtain ⟨g3, n3, y3, rfl⟩ := R_sl hm.r3; obtain ⟨g4, n4, y4, rfl⟩ := R_sl hm.r4; have hy2 := blk_below HY.out hb2; have r0 := (blk_cell hy2 0).trans rfl; have r1 := (blk_cell hy2 1).trans rfl; have r2 := (blk_cell hy2 2).trans rfl; have r3 := (blk_cell hy2 3).trans rfl; have r4 := (blk_cell hy2 4).trans rfl; have f0 := blk_frozen hy2 0; have f1 := blk_frozen hy2 1; have f2 := blk_frozen hy2 2; have f3 := blk_frozen hy2 3; have f4 := blk_frozen hy2 4; have HM := Aside0.mk hm; have HB2 := Aside0.mk hb2; have HY2 := Aside0.mk hy2; clear hm hb2 hy2))
    refine bodyPost_ret (results_ct rfl _ _ (w.heap.size + 4) 34 #[.int .i64 (holdF l i b x).tm, .slice g1 n1 y1, .slice g2 n2 y2, .slice g3 n3 y3, .slice g4 n4 y4] (0, 0) _ rfl (set5 HY2.out _ _ _ _ _) hu34 rfl (by kernel_rfl)) rfl ?_
    exact gives_made' (y := holdF l i b x) (by omega) (blk_lt HY.out) (by repeat (first | exact HB1.out | apply pw_below_drewN)) HB2.out HM.out
  · have hS : holdG l x i b = (x, E) := by unfold holdG; rw [if_pos (by rw [hE]; exact h0), hE]
    rw [hS]
    have HE := Aside0.mk hE
    have t0 : (E != 0) = true := by simp [h0]
    clear hS hE h0
    go_enter Try.func26, Try.ntmps26
    go_wp2_with (go_at_call 30; (with_reducible refine (checked_calls l A c x a i _ (Kd.C_below HL.out (by repeat (first | exact Below.refl _ _ | apply below_alloc))) HC.out HF.out (HX.out.below (by repeat (first | exact Below.refl _ _ | apply below_alloc)))).mono ?_); rintro e w1 ⟨rfl, hb1⟩; rw [HE.out]; obtain ⟨hc1, hf1⟩ := bcell hb1; have q0 := fun o => hc1 (w.heap.size) o (by simp only [World.size_alloc]; omega); have q1 := fun o => hc1 (w.heap.size + 1) o (by simp only [World.size_alloc]; omega); have q2 := fun o => hc1 (w.heap.size + 2) o (by simp only [World.size_alloc]; omega); have q3 := fun o => hc1 (w.heap.size + 3) o (by simp only [World.size_alloc]; omega); have q4 := fun o => hc1 (w.heap.size + 4) o (by simp only [World.size_alloc]; omega); have p4 := fun o => hf1 (w.heap.size + 4) o (by simp only [World.size_alloc]; omega); have HY := Aside0.mk (blk_below (blk5 _ _ _ _ _ _) hb1); have HB1 := Aside0.mk (below_step (w := w) (by repeat (first | exact Below.refl _ _ | apply below_alloc)) hb1); clear hc1 hf1 hb1)
    refine bodyPost_ret (results_ct rfl _ _ (w.heap.size + 4) 34 #[.int .i64 x.tm, .slice a.A1 x.st.length a.c1, .slice a.A2 x.si.length a.c2, .slice a.A3 x.pu.length a.c3, .slice a.A4 x.he.length a.c4] (0, 0) _ rfl (set5 HY.out _ _ _ _ _) hu34 rfl (by kernel_rfl)) rfl ?_
    exact gives_ret (by omega) HB1.out HX.out
set_option maxHeartbeats 4000000 in
set_option maxRecDepth 100000 in
theorem restG_calls (l : List S31) (A : Option Addr) (c : Nat) (x : Ln) (a : La) (i : Int) (w : World) (hl : Kd.C k31 w A l.length l) (hc : l.length ≤ c) (hfit : Fit l.length) (hx : LC w a x) :
    Calls Try.prog 25 #[.slice A l.length c, .agg #[.int .i64 x.tm, .slice a.A1 x.st.length a.c1, .slice a.A2 x.si.length a.c2, .slice a.A3 x.pu.length a.c3, .slice a.A4 x.he.length a.c4], .int .i64 i] w (Gives w x a (restG l x i).1 (restG l x i).2) := by
  have HL := Aside0.mk hl
  have HC := Aside0.mk hc
  have HX := Aside0.mk hx
  have HF := Aside0.mk hfit
  have hu34 := Try.underlying34
  clear hl hc hfit hx
  obtain ⟨E, hE⟩ : ∃ E, chk l x i = E := ⟨_, rfl⟩
  by_cases h0 : E = 0
  · subst h0
    obtain ⟨hv, i0, i1⟩ := chk_zero hE
    have HE := Aside0.mk hE
    have HV := Aside0.mk hv
    have hN := hv.snd.len
    have z3 := hv.len.e3
    obtain ⟨A1, c1, A2, c2, A3, c3, A4, c4⟩ := a
    obtain ⟨ad3, e3, d3⟩ := Kd.at_bool HX.out.r3 i i0 (by omega)
    dsimp only at e3
    subst e3
    have t3 : i < (x.pu.length : Int) := by omega
    have D3 := Aside0.mk d3
    clear d3 z3
    have hS : restG l x i = if rdOf false x.pu i = false then (x, 10) else (restF i x, 0) := by unfold restG; rw [if_neg (by rw [hE]; simp)]
    clear hE hv
    dsimp only
    by_cases s : rdOf false x.pu i = false
    · rw [hS, if_pos s]
      clear hS
      go_enter Try.func25, Try.ntmps25
      go_wp2_with (go_at_call 30; (with_reducible refine (checked_calls l A c x ⟨A1, c1, A2, c2, some ad3, c3, A4, c4⟩ i _ (Kd.C_below HL.out (by repeat (first | exact Below.refl _ _ | apply below_alloc))) HC.out HF.out (HX.out.below (by repeat (first | exact Below.refl _ _ | apply below_alloc)))).mono ?_); rintro e w1 ⟨rfl, hb1⟩; rw [HE.out]; obtain ⟨hc1, hf1⟩ := bcell hb1; have q0 := fun o => hc1 (w.heap.size) o (by simp only [World.size_alloc]; omega); have q1 := fun o => hc1 (w.heap.size + 1) o (by simp only [World.size_alloc]; omega); have q2 := fun o => hc1 (w.heap.size + 2) o (by simp only [World.size_alloc]; omega); have p2 := fun o => hf1 (w.heap.size + 2) o (by simp only [World.size_alloc]; omega); have HY := Aside0.mk (blk_below (blk3 _ _ _ _) hb1); have HB1 := Aside0.mk (below_step (w := w) (by repeat (first | exact Below.refl _ _ | apply below_alloc)) hb1); have kI : w1.cell? ⟨w.heap.size + 1, 0, none⟩ = some (.int .i64 i) := (blk_cell (blk_below (blk3b w _ _ _) hb1) 0).trans rfl; have d3 := pw_cell_below HB1.out D3.out; clear hc1 hf1 hb1)
      refine bodyPost_ret (results_ct rfl _ _ (w.heap.size + 2) 34 #[.int .i64 x.tm, .slice A1 x.st.length c1, .slice A2 x.si.length c2, .slice (some ad3) x.pu.length c3, .slice A4 x.he.length c4] (0, 0) _ rfl (set5 HY.out _ _ _ _ _) hu34 rfl (by kernel_rfl)) rfl ?_
      exact gives_ret (a := ⟨A1, c1, A2, c2, some ad3, c3, A4, c4⟩) (by omega) HB1.out HX.out
    · have s2 : rdOf false x.pu i = true := by simpa using s
      rw [hS, if_neg s]
      clear hS s
      go_enter Try.func25, Try.ntmps25
      go_wp2_with (first | (go_at_call 30; (with_reducible refine (checked_calls l A c x ⟨A1, c1, A2, c2, some ad3, c3, A4, c4⟩ i _ (Kd.C_below HL.out (by repeat (first | exact Below.refl _ _ | apply below_alloc))) HC.out HF.out (HX.out.below (by repeat (first | exact Below.refl _ _ | apply below_alloc)))).mono ?_); rintro e w1 ⟨rfl, hb1⟩; rw [HE.out]; obtain ⟨hc1, hf1⟩ := bcell hb1; have q0 := fun o => hc1 (w.heap.size) o (by simp only [World.size_alloc]; omega); have q1 := fun o => hc1 (w.heap.size + 1) o (by simp only [World.size_alloc]; omega); have q2 := fun o => hc1 (w.heap.size + 2) o (by simp only [World.size_alloc]; omega); have p2 := fun o => hf1 (w.heap.size + 2) o (by simp only [World.size_alloc]; omega); have HY := Aside0.mk (blk_below (blk3 _ _ _ _) hb1); have HB1 := Aside0.mk (below_step (w := w) (by repeat (first | exact Below.refl _ _ | apply below_alloc)) hb1); have kI : w1.cell? ⟨w.heap.size + 1, 0, none⟩ = some (.int .i64 i) := (blk_cell (blk_below (blk3b w _ _ _) hb1) 0).trans rfl; have d3 := pw_cell_below HB1.out D3.out; clear hc1 hf1 hb1) | (go_at_call 31; (with_reducible refine (done_calls ⟨A1, c1, A2, c2, some ad3, c3, A4, c4⟩ x (restF i x) 52 _ #[.pointer (some ⟨w.heap.size + 1, 0, none⟩)] _ (HX.out.below (by repeat (first | exact HB1.out | apply pw_below_drewN))) (vl_lz HV.out) Try.func52 rfl rfl (restore_change' x i (w.heap.size + 1) l.length _ (by omega) HV.out.len i0 i1 kI)).mono ?_); rintro e w2 ⟨v1, v2, v3, v4, rfl, hm, hb2⟩; obtain ⟨g1, n1, y1, rfl⟩ := R_sl hm.r1; obtain ⟨g2, n2, y2, rfl⟩ := R_sl hm.r2; obtain ⟨g3, n3, y3, rfl⟩ := R_sl hm.r3; obtain ⟨g4, n4, y4, rfl⟩ := R_sl hm.r4; have hy2 := blk_below HY.out hb2; have r0 := (blk_cell hy2 0).trans rfl; have r1 := (blk_cell hy2 1).trans rfl; have r2 := (blk_cell hy2 2).trans rfl; have r3 := (blk_cell hy2 3).trans rfl; have r4 := (blk_cell hy2 4).trans rfl; have f0 := blk_frozen hy2 0; have f1 := blk_frozen hy2 1; have f2 := blk_frozen hy2 2; have f3 := blk_frozen hy2 3; have f4 := blk_frozen hy2 4; have HM := Aside0.mk hm; have HB2 := Aside0.mk hb2; have HY2 := Aside0.mk hy2; clear hm hb2 hy2))
      refine bodyPost_ret (results_ct rfl _ _ (w.heap.size + 2) 34 #[.int .i64 (restF i x).tm, .slice g1 n1 y1, .slice g2 n2 y2, .slice g3 n3 y3, .slice g4 n4 y4] (0, 0) _ rfl (set5 HY2.out _ _ _ _ _) hu34 rfl (by kernel_rfl)) rfl ?_
      exact gives_made' (y := restF i x) (by omega) (blk_lt HY.out) (by repeat (first | exact HB1.out | apply pw_below_drewN)) HB2.out HM.out
  · have hS : restG l x i = (x, E) := by unfold restG; rw [if_pos (by rw [hE]; exact h0), hE]
    rw [hS]
    have HE := Aside0.mk hE
    have t0 : (E != 0) = true := by simp [h0]
    clear hS hE h0
    go_enter Try.func25, Try.ntmps25
    go_wp2_with (go_at_call 30; (with_reducible refine (checked_calls l A c x a i _ (Kd.C_below HL.out (by repeat (first | exact Below.refl _ _ | apply below_alloc))) HC.out HF.out (HX.out.below (by repeat (first | exact Below.refl _ _ | apply below_alloc)))).mono ?_); rintro e w1 ⟨rfl, hb1⟩; rw [HE.out]; obtain ⟨hc1, hf1⟩ := bcell hb1; have q0 := fun o => hc1 (w.heap.size) o (by simp only [World.size_alloc]; omega); have q1 := fun o => hc1 (w.heap.size + 1) o (by simp only [World.size_alloc]; omega); have q2 := fun o => hc1 (w.heap.size + 2) o (by simp only [World.size_alloc]; omega); have p2 := fun o => hf1 (w.heap.size + 2) o (by simp only [World.size_alloc]; omega); have HY := Aside0.mk (blk_below (blk3 _ _ _ _) hb1); have HB1 := Aside0.mk (below_step (w := w) (by repeat (first | exact Below.refl _ _ | apply below_alloc)) hb1); clear hc1 hf1 hb1)
    refine bodyPost_ret (results_ct rfl _ _ (w.heap.size + 2) 34 #[.int .i64 x.tm, .slice a.A1 x.st.length a.c1, .slice a.A2 x.si.length a.c2, .slice a.A3 x.pu.length a.c3, .slice a.A4 x.he.length a.c4] (0, 0) _ rfl (set5 HY.out _ _ _ _ _) hu34 rfl (by kernel_rfl)) rfl ?_
    exact gives_ret (by omega) HB1.out HX.out
set_option maxHeartbeats 4000000 in
set_option maxRecDepth 100000 in
theorem waitG_calls (l : List S31) (A : Option Addr) (c : Nat) (x : Ln) (a : La) (t : Int) (w : World) (hl : Kd.C k31 w A l.length l) (hc : l.length ≤ c) (hfit : Fit l.length) (hx : LC w a x) :
    Calls Try.prog 14 #[.slice A l.length c, .agg #[.int .i64 x.tm, .slice a.A1 x.st.length a.c1, .slice a.A2 x.si.length a.c2, .slice a.A3 x.pu.length a.c3, .slice a.A4 x.he.length a.c4], .int .i64 t] w (Gives w x a (waitG l x t).1 (waitG l x t).2) := by
  have HL := Aside0.mk hl
  have HC := Aside0.mk hc
  have HX := Aside0.mk hx
  have HF := Aside0.mk hfit
  have hu34 := Try.underlying34
  clear hl hc hfit hx
  by_cases hv : vlB l x = true
  · have HE := Aside0.mk hv
    have HV := Aside0.mk (vlB_iff.1 hv)
    by_cases ht : x.tm ≤ t ∧ t ≤ 2147483648
    · have hS : waitG l x t = (waitN l t l.length x, 0) := by unfold waitG; rw [if_neg (by rw [hv]; simp), if_neg (by simpa using ht)]
      rw [hS]
      have HI : Aside0 (lists_In.f t x.tm 2147483648 = some true) := ⟨by rw [In_eq, decide_eq_true ht]⟩
      clear hS ht hv
      go_enter Try.func14, Try.ntmps14
      go_wp2_with (first | (go_at_call 28; (with_reducible refine (valid_calls l A c x a _ (Kd.C_below HL.out (by repeat (first | exact Below.refl _ _ | apply below_alloc))) HC.out HF.out (HX.out.below (by repeat (first | exact Below.refl _ _ | apply below_alloc)))).mono ?_); rintro e w1 ⟨rfl, hb1⟩; rw [HE.out]; obtain ⟨hc1, hf1⟩ := bcell hb1; have q0 := fun o => hc1 (w.heap.size) o (by simp only [World.size_alloc]; omega); have q1 := fun o => hc1 (w.heap.size + 1) o (by simp only [World.size_alloc]; omega); have q2 := fun o => hc1 (w.heap.size + 2) o (by simp only [World.size_alloc]; omega); have q3 := fun o => hc1 (w.heap.size + 3) o (by simp only [World.size_alloc]; omega); have p3 := fun o => hf1 (w.heap.size + 3) o (by simp only [World.size_alloc]; omega); have HY := Aside0.mk (blk_below (blk4 _ _ _ _ _) hb1); have HB1 := Aside0.mk (below_step (w := w) (by repeat (first | exact Below.refl _ _ | apply below_alloc)) hb1); have kL : w1.cell? ⟨w.heap.size, 0, none⟩ = some (.slice A l.length c) := (blk_cell (blk_below (blkA w _ _ _ _) hb1) 0).trans rfl; have kI : w1.cell? ⟨w.heap.size + 2, 0, none⟩ = some (.int .i64 t) := (blk_cell (blk_below (blkA2 w _ _ _ _) hb1) 0).trans rfl; clear hc1 hf1 hb1) | (go_at_call 33; (with_reducible refine (lists_In.calls t x.tm 2147483648 true _ HI.out).mono ?_); rintro e w' ⟨rfl, ⟨nd, rfl⟩⟩; have kI2 : (w1.drewN nd).cell? ⟨w.heap.size + 2, 0, none⟩ = some (.int .i64 t) := kI; have kL2 : (w1.drewN nd).cell? ⟨w.heap.size, 0, none⟩ = some (.slice A l.length c) := kL; have HYn := Aside0.mk (blk_drewN HY.out nd); have HBn := Aside0.mk (pw_below_drewN HB1.out nd); clear HY HB1; have HY := HYn; have HB1 := HBn; clear HYn HBn) | (go_at_call 31; (with_reducible refine (done_calls a x (waitN l t l.length x) 34 _ #[.pointer (some ⟨w.heap.size + 2, 0, none⟩), .pointer (some ⟨w.heap.size, 0, none⟩)] _ (HX.out.below (by repeat (first | exact HB1.out | apply pw_below_drewN))) (vl_lz HV.out) Try.func34 rfl rfl (wait_change l A c x t w.heap.size (w.heap.size + 2) _ (Kd.C_below HL.out (by repeat (first | exact HB1.out | apply pw_below_drewN))) HV.out.snd HV.out.len (vl_si HV.out) kI2 kL2)).mono ?_); rintro e w2 ⟨v1, v2, v3, v4, rfl, hm, hb2⟩; obtain ⟨g1, n1, y1, rfl⟩ := R_sl hm.r1; obtain ⟨g2, n2, y2, rfl⟩ := R_sl hm.r2; obtain ⟨g3, n3, y3, rfl⟩ := R_sl hm.r3; obtain ⟨g4, n4, y4, rfl⟩ := R_sl hm.r4; have hy2 := blk_below HY.out hb2; have r0 := (blk_cell hy2 0).trans rfl; have r1 := (blk_cell hy2 1).trans rfl; have r2 := (blk_cell hy2 2).trans rfl; have r3 := (blk_cell hy2 3).trans rfl; have r4 := (blk_cell hy2 4).trans rfl; have f0 := blk_frozen hy2 0; have f1 := blk_frozen hy2 1; have f2 := blk_frozen hy2 2; have f3 := blk_frozen hy2 3; have f4 := blk_frozen hy2 4; have HM := Aside0.mk hm; have HB2 := Aside0.mk hb2; have HY2 := Aside0.mk hy2; clear hm hb2 hy2))
      refine bodyPost_ret (results_ct rfl _ _ (w.heap.size + 3) 34 #[.int .i64 (waitN l t l.length x).tm, .slice g1 n1 y1, .slice g2 n2 y2, .slice g3 n3 y3, .slice g4 n4 y4] (0, 0) _ rfl (set5 HY2.out _ _ _ _ _) hu34 rfl (by kernel_rfl)) rfl ?_
      exact gives_made' (y := waitN l t l.length x) (by omega) (blk_lt HY.out) (by repeat (first | exact HB1.out | apply pw_below_drewN)) HB2.out HM.out
    · have hS : waitG l x t = (x, 8) := by unfold waitG; rw [if_neg (by rw [hv]; simp), if_pos ht]
      rw [hS]
      have HI : Aside0 (lists_In.f t x.tm 2147483648 = some false) := ⟨by rw [In_eq, decide_eq_false ht]⟩
      clear hS ht hv
      go_enter Try.func14, Try.ntmps14
      go_wp2_with (first | (go_at_call 28; (with_reducible refine (valid_calls l A c x a _ (Kd.C_below HL.out (by repeat (first | exact Below.refl _ _ | apply below_alloc))) HC.out HF.out (HX.out.below (by repeat (first | exact Below.refl _ _ | apply below_alloc)))).mono ?_); rintro e w1 ⟨rfl, hb1⟩; rw [HE.out]; obtain ⟨hc1, hf1⟩ := bcell hb1; have q0 := fun o => hc1 (w.heap.size) o (by simp only [World.size_alloc]; omega); have q1 := fun o => hc1 (w.heap.size + 1) o (by simp only [World.size_alloc]; omega); have q2 := fun o => hc1 (w.heap.size + 2) o (by simp only [World.size_alloc]; omega); have q3 := fun o => hc1 (w.heap.size + 3) o (by simp only [World.size_alloc]; omega); have p3 := fun o => hf1 (w.heap.size + 3) o (by simp only [World.size_alloc]; omega); have HY := Aside0.mk (blk_below (blk4 _ _ _ _ _) hb1); have HB1 := Aside0.mk (below_step (w := w) (by repeat (first | exact Below.refl _ _ | apply below_alloc)) hb1); have kL : w1.cell? ⟨w.heap.size, 0, none⟩ = some (.slice A l.length c) := (blk_cell (blk_below (blkA w _ _ _ _) hb1) 0).trans rfl; have kI : w1.cell? ⟨w.heap.size + 2, 0, none⟩ = some (.int .i64 t) := (blk_cell (blk_below (blkA2 w _ _ _ _) hb1) 0).trans rfl; clear hc1 hf1 hb1) | (go_at_call 33; (with_reducible refine (lists_In.calls t x.tm 2147483648 false _ HI.out).mono ?_); rintro e w' ⟨rfl, ⟨nd, rfl⟩⟩; have kI2 : (w1.drewN nd).cell? ⟨w.heap.size + 2, 0, none⟩ = some (.int .i64 t) := kI; have kL2 : (w1.drewN nd).cell? ⟨w.heap.size, 0, none⟩ = some (.slice A l.length c) := kL; have HYn := Aside0.mk (blk_drewN HY.out nd); have HBn := Aside0.mk (pw_below_drewN HB1.out nd); clear HY HB1; have HY := HYn; have HB1 := HBn; clear HYn HBn))
      refine bodyPost_ret (results_ct rfl _ _ (w.heap.size + 3) 34 #[.int .i64 x.tm, .slice a.A1 x.st.length a.c1, .slice a.A2 x.si.length a.c2, .slice a.A3 x.pu.length a.c3, .slice a.A4 x.he.length a.c4] (0, 0) _ rfl (set5 HY.out _ _ _ _ _) hu34 rfl (by kernel_rfl)) rfl ?_
      exact gives_ret (by omega) (by repeat (first | exact HB1.out | apply pw_below_drewN)) HX.out
  · have hv := Bool.eq_false_iff.2 hv
    have HE := Aside0.mk hv
    have hS : waitG l x t = (x, 6) := by unfold waitG; rw [if_pos hv]
    rw [hS]
    clear hS hv
    go_enter Try.func14, Try.ntmps14
    go_wp2_with (go_at_call 28; (with_reducible refine (valid_calls l A c x a _ (Kd.C_below HL.out (by repeat (first | exact Below.refl _ _ | apply below_alloc))) HC.out HF.out (HX.out.below (by repeat (first | exact Below.refl _ _ | apply below_alloc)))).mono ?_); rintro e w1 ⟨rfl, hb1⟩; rw [HE.out]; obtain ⟨hc1, hf1⟩ := bcell hb1; have q0 := fun o => hc1 (w.heap.size) o (by simp only [World.size_alloc]; omega); have q1 := fun o => hc1 (w.heap.size + 1) o (by simp only [World.size_alloc]; omega); have q2 := fun o => hc1 (w.heap.size + 2) o (by simp only [World.size_alloc]; omega); have q3 := fun o => hc1 (w.heap.size + 3) o (by simp only [World.size_alloc]; omega); have p3 := fun o => hf1 (w.heap.size + 3) o (by simp only [World.size_alloc]; omega); have HY := Aside0.mk (blk_below (blk4 _ _ _ _ _) hb1); have HB1 := Aside0.mk (below_step (w := w) (by repeat (first | exact Below.refl _ _ | apply below_alloc)) hb1); have kL : w1.cell? ⟨w.heap.size, 0, none⟩ = some (.slice A l.length c) := (blk_cell (blk_below (blkA w _ _ _ _) hb1) 0).trans rfl; have kI : w1.cell? ⟨w.heap.size + 2, 0, none⟩ = some (.int .i64 t) := (blk_cell (blk_below (blkA2 w _ _ _ _) hb1) 0).trans rfl; clear hc1 hf1 hb1)
    refine bodyPost_ret (results_ct rfl _ _ (w.heap.size + 3) 34 #[.int .i64 x.tm, .slice a.A1 x.st.length a.c1, .slice a.A2 x.si.length a.c2, .slice a.A3 x.pu.length a.c3, .slice a.A4 x.he.length a.c4] (0, 0) _ rfl (set5 HY.out _ _ _ _ _) hu34 rfl (by kernel_rfl)) rfl ?_
    exact gives_ret (by omega) HB1.out HX.out
end Go.Proofs.Ytejmjeanhlkenaa.HandA
