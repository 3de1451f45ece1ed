import Derived.Test.YtejmjeanhlkenaaCV
/- Start, Wait, Stop, Pull, Restore and Hold, walked. -/
namespace Go.Proofs.Ytejmjeanhlkenaa.HandA
open Go.RowKit Go.Proofs.Ytejmjeanhlkenaa.PB Go.Proofs.YtejmjeanhlkenaaW.PrintWords Go.Proofs.YtejmjeanhlkenaaW.PrintLast Go.Proofs.YtejmjeanhlkenaaW.PrintMore
set_option linter.unusedVariables false
set_option linter.unusedSimpArgs false
/-- What a function that returns a line and a number comes to. -/
def Gives (w : World) (x : Ln) (a0 : La) (y : Ln) (err : Int) (e : Ending) (w' : World) : Prop :=
  ∃ a : La, e = .returned (.tuple #[.agg #[.int .i64 y.tm, .slice a.A1 y.st.length a.c1, .slice a.A2 y.si.length a.c2, .slice a.A3 y.pu.length a.c3, .slice a.A4 y.he.length a.c4], .int .i64 err]) ∧ ((a = a0 ∧ y = x) ∨ Foot (fun W => LC W a y) w' (fun k => w.heap.size ≤ k)) ∧ LC w' a y ∧ Below w.heap.size w w'
/-- A line that was made leads to nothing but what was made. -/
theorem Made.foot {w : World} {base : Nat} {x : Ln} {a : La} (h : Made w base (.slice a.A1 x.st.length a.c1) (.slice a.A2 x.si.length a.c2) (.slice a.A3 x.pu.length a.c3) (.slice a.A4 x.he.length a.c4) x) : Foot (fun W => LC W a x) w (fun k => base ≤ k) := by
  have f1 := Kd.F_mono (Kd.R_F (Kd.R_bound h.r1)) (ok' := fun k => base ≤ k) (fun k hk => hk.2.1)
  have f2 := Kd.F_mono (Kd.R_F (Kd.R_bound h.r2)) (ok' := fun k => base ≤ k) (fun k hk => hk.2.1)
  have f3 := Kd.F_mono (Kd.R_F (Kd.R_bound h.r3)) (ok' := fun k => base ≤ k) (fun k hk => hk.2.1)
  have f4 := Kd.F_mono (Kd.R_F (Kd.R_bound h.r4)) (ok' := fun k => base ≤ k) (fun k hk => hk.2.1)
  have l1 := (Kd.R_reads' h.r1).2.1
  have l2 := (Kd.R_reads' h.r2).2.1
  have l3 := (Kd.R_reads' h.r3).2.1
  have l4 := (Kd.R_reads' h.r4).2.1
  exact fun W' hW => ⟨f1 W' hW, l1, f2 W' hW, l2, f3 W' hW, l3, f4 W' hW, l4⟩
theorem vl_lz {l : List S31} {x : Ln} (h : Vl l x) : Lz x := by
  obtain ⟨e1, e2, e3, e4⟩ := h.len
  have := h.snd.len
  exact ⟨by omega, by omega, by omega, by omega⟩
theorem chk_zero {l : List S31} {x : Ln} {i : Int} (h : chk l x i = 0) : Vl l x ∧ 0 ≤ i ∧ i < l.length := by
  unfold chk at h
  split at h
  · rename_i hv
    split at h
    · rename_i hi
      exact ⟨vlB_iff.1 hv, hi⟩
    · cases h
  · cases h
noncomputable def startF (l : List S31) (x : Ln) (i : Int) : Ln × Int :=
  if chk l x i ≠ 0 then (x, chk l x i) else if rd x.st i ≠ 0 then (x, 10) else if rdOf false x.pu i = true ∨ rdOf false x.he i = true then (x, 51)
  else if 0 ≤ up l i ∧ rd x.st (up l i) ≠ 2 then (x, 10) else ({ x with st := x.st.set i.toNat 1, si := x.si.set i.toNat x.tm }, 0)

theorem bcell {W w1 : World} (hb : Below W.heap.size W w1) : (∀ b o, b < W.heap.size → w1.cell? ⟨b, o, none⟩ = W.cell? ⟨b, o, none⟩) ∧ (∀ b o, b < W.heap.size → w1.frozen? ⟨b, o, none⟩ = W.frozen? ⟨b, o, none⟩) :=
  ⟨fun b o h => hb.cell (p := ⟨b, o, none⟩) h, fun b o h => hb.frozen (p := ⟨b, o, none⟩) h⟩
abbrev z5 : Array Value := #[Value.int IntKind.i64 0, Value.slice none 0 0, Value.slice none 0 0, Value.slice none 0 0, Value.slice none 0 0]
theorem blk3 (w : World) (o0 o1 o2 : Obj) : (((w.alloc o0).alloc o1).alloc o2).heap[w.heap.size + 2]? = some o2 := by
  have := blk_new ((w.alloc o0).alloc o1) o2
  simpa using this
theorem blk3b (w : World) (o0 o1 o2 : Obj) : (((w.alloc o0).alloc o1).alloc o2).heap[w.heap.size + 1]? = some o1 := by
  have := blk_alloc (blk_new (w.alloc o0) o1) o2
  simpa using this
theorem blk4 (w : World) (o0 o1 o2 o3 : Obj) : ((((w.alloc o0).alloc o1).alloc o2).alloc o3).heap[w.heap.size + 3]? = some o3 := by
  have := blk_new (((w.alloc o0).alloc o1).alloc o2) o3
  simpa using this
theorem blk5 (w : World) (o0 o1 o2 o3 o4 : Obj) : (((((w.alloc o0).alloc o1).alloc o2).alloc o3).alloc o4).heap[w.heap.size + 4]? = some o4 := by
  have := blk_new ((((w.alloc o0).alloc o1).alloc o2).alloc o3) o4
  simpa using this
/-- A line that was read is returned: its cells stand in the result's variable. -/
theorem gives_ret {a : La} {x : Ln} {w w1 : World} {B : Nat} {err : Int} (hB : w.heap.size ≤ B) (hb : Below w.heap.size w w1) (hx : LC w a x) :
    Gives w x a x err (.returned (.tuple #[.agg #[.int .i64 x.tm, .slice a.A1 x.st.length a.c1, .slice a.A2 x.si.length a.c2, .slice a.A3 x.pu.length a.c3, .slice a.A4 x.he.length a.c4], .int .i64 err]))
      (((((w1.setCell ⟨B, 0, none⟩ (.int .i64 x.tm)).setCell ⟨B, 1, none⟩ (.slice a.A1 x.st.length a.c1)).setCell ⟨B, 2, none⟩ (.slice a.A2 x.si.length a.c2)).setCell ⟨B, 3, none⟩ (.slice a.A3 x.pu.length a.c3)).setCell ⟨B, 4, none⟩ (.slice a.A4 x.he.length a.c4)) := by
  have SS := same5 w1 B (.int .i64 x.tm) (.slice a.A1 x.st.length a.c1) (.slice a.A2 x.si.length a.c2) (.slice a.A3 x.pu.length a.c3) (.slice a.A4 x.he.length a.c4)
  have hb2 := below_same hb SS hB
  exact ⟨a, rfl, .inl ⟨rfl, rfl⟩, hx.below hb2, hb2⟩
set_option maxHeartbeats 1000000 in
/-- A line that was made is returned. -/
theorem gives_made {x0 : Ln} {a0 : La} {y : Ln} {w w0 w1 : World} {B : Nat} {g1 g2 g3 g4 : Option Addr} {d1 d2 d3 d4 : Nat} {err : Int} (hB : w.heap.size ≤ B) (hlt : B < w0.heap.size) (h0 : Below w.heap.size w w0) (hb : Below w0.heap.size w0 w1) (hm : Made w1 w0.heap.size (.slice g1 y.st.length d1) (.slice g2 y.si.length d2) (.slice g3 y.pu.length d3) (.slice g4 y.he.length d4) y) :
    Gives w x0 a0 y err (.returned (.tuple #[.agg #[.int .i64 y.tm, .slice g1 y.st.length d1, .slice g2 y.si.length d2, .slice g3 y.pu.length d3, .slice g4 y.he.length d4], .int .i64 err]))
      (((((w1.setCell ⟨B, 0, none⟩ (.int .i64 y.tm)).setCell ⟨B, 1, none⟩ (.slice g1 y.st.length d1)).setCell ⟨B, 2, none⟩ (.slice g2 y.si.length d2)).setCell ⟨B, 3, none⟩ (.slice g3 y.pu.length d3)).setCell ⟨B, 4, none⟩ (.slice g4 y.he.length d4)) := by
  have SS := same5 w1 B (.int .i64 y.tm) (.slice g1 y.st.length d1) (.slice g2 y.si.length d2) (.slice g3 y.pu.length d3) (.slice g4 y.he.length d4)
  have hb1 := below_step h0 hb
  have hb2 := below_same hb1 SS hB
  have far : ∀ {α : Type} {d : Kd α} {e : Nat} {ok : Nat → Prop} {v : Value} {xs : List α}, d.R e w1 w0.heap.size ok v xs → d.R e (((((w1.setCell ⟨B, 0, none⟩ (.int .i64 y.tm)).setCell ⟨B, 1, none⟩ (.slice g1 y.st.length d1)).setCell ⟨B, 2, none⟩ (.slice g2 y.si.length d2)).setCell ⟨B, 3, none⟩ (.slice g3 y.pu.length d3)).setCell ⟨B, 4, none⟩ (.slice g4 y.he.length d4)) w0.heap.size (fun k => ok k ∧ w0.heap.size ≤ k) v xs := fun h =>
    R_same (Kd.R_mono (Kd.R_bound h) (fun k hk => ⟨hk.1, hk.2.1⟩)) SS (fun k hk => by have := hk.2; omega)
  have m2 : Made _ w0.heap.size (.slice g1 y.st.length d1) (.slice g2 y.si.length d2) (.slice g3 y.pu.length d3) (.slice g4 y.he.length d4) y :=
    ⟨Kd.R_mono (far hm.r1) (fun _ hk => hk.1), Kd.R_mono (far hm.r2) (fun _ hk => hk.1), Kd.R_mono (far hm.r3) (fun _ hk => hk.1), Kd.R_mono (far hm.r4) (fun _ hk => hk.1)⟩
  have ft := Made.foot (a := ⟨g1, d1, g2, d2, g3, d3, g4, d4⟩) m2
  exact ⟨⟨g1, d1, g2, d2, g3, d3, g4, d4⟩, rfl, .inr (Foot.mono ft (fun k hk => Nat.le_trans h0.size hk)), Foot.now ft, hb2⟩

set_option maxHeartbeats 4000000 in
set_option maxRecDepth 100000 in
theorem start_calls (l : List S31) (A : Option Addr) (c : Nat) (x : Ln) (a : La) (i : Int) (w : World) (hl : Kd.C k31 w A l.length l) (hc : l.length ≤ c) (hfit : Fit l.length) (hx : LC w a x) :
    Calls Try.prog 13 #[.slice A l.length c, .agg #[.int .i64 x.tm, .slice a.A1 x.st.length a.c1, .slice a.A2 x.si.length a.c2, .slice a.A3 x.pu.length a.c3, .slice a.A4 x.he.length a.c4], .int .i64 i] w (Gives w x a (startF l x i).1 (startF l x i).2) := by
  have HL := Aside0.mk hl
  have HC := Aside0.mk hc
  have HX := Aside0.mk hx
  have HF := Aside0.mk hfit
  have hu34 := Try.underlying34
  clear hl hc hfit hx
  obtain ⟨E, hE⟩ : ∃ E, chk l x i = E := ⟨_, rfl⟩
  by_cases h0 : E = 0
  · subst h0
    obtain ⟨hv, i0, i1⟩ := chk_zero hE
    have HE := Aside0.mk hE
    have HV := Aside0.mk hv
    have hlen := hv.len
    obtain ⟨u0, u1⟩ := hv.snd.inb i i0 i1
    have HS : startF l x i = if rd x.st i ≠ 0 then (x, 10) else if rdOf false x.pu i = true ∨ rdOf false x.he i = true then (x, 51) else if 0 ≤ up l i ∧ rd x.st (up l i) ≠ 2 then (x, 10) else ({ x with st := x.st.set i.toNat 1, si := x.si.set i.toNat x.tm }, 0) := by unfold startF; rw [if_neg (by rw [hE]; simp)]
    clear hv hE
    obtain ⟨z1, z2, z3, z4⟩ := hlen
    obtain ⟨A1, c1, A2, c2, A3, c3, A4, c4⟩ := a
    obtain ⟨ad0, e0, d0, _⟩ := at_T31 HL.out i i0 i1
    obtain ⟨ad1, e1, d1⟩ := Kd.at_int HX.out.r1 i i0 (by omega)
    obtain ⟨ad3, e3, d3⟩ := Kd.at_bool HX.out.r3 i i0 (by omega)
    obtain ⟨ad4, e4, d4⟩ := Kd.at_bool HX.out.r4 i i0 (by omega)
    dsimp only at e1 e3 e4
    subst e0 e1 e3 e4
    have t1 : i < (x.st.length : Int) := by omega
    have t2 : i < (x.si.length : Int) := by omega
    have t3 : i < (x.pu.length : Int) := by omega
    have t4 : i < (x.he.length : Int) := by omega
    have t5 : up l i < (x.st.length : Int) := by omega
    clear z1 z2 z3 z4
    have D0 := Aside0.mk d0
    have D1 := Aside0.mk d1
    have D3 := Aside0.mk d3
    have D4 := Aside0.mk d4
    clear d0 d1 d3 d4
    dsimp only
    by_cases s1 : rd x.st i ≠ 0
    · have hS : startF l x i = (x, 10) := by rw [HS]; rw [if_pos s1]
      rw [hS]
      clear hS HS
      have q : (rd x.st i != 0) = true := by simp [s1]
      clear s1
      go_enter Try.func13, Try.ntmps13
      go_wp2_with (go_at_call 30; (with_reducible refine (checked_calls l (some ad0) c x ⟨some ad1, c1, A2, c2, some ad3, c3, some ad4, c4⟩ i _ (Kd.C_below HL.out (by repeat (first | exact Below.refl _ _ | apply below_alloc))) HC.out HF.out (HX.out.below (by repeat (first | exact Below.refl _ _ | apply below_alloc)))).mono ?_); rintro e w1 ⟨rfl, hb1⟩; rw [HE.out]; obtain ⟨hc1, hf1⟩ := bcell hb1; have q0 := fun o => hc1 (w.heap.size) o (by simp only [World.size_alloc]; omega); have q1 := fun o => hc1 (w.heap.size + 1) o (by simp only [World.size_alloc]; omega); have q2 := fun o => hc1 (w.heap.size + 2) o (by simp only [World.size_alloc]; omega); have p2 := fun o => hf1 (w.heap.size + 2) o (by simp only [World.size_alloc]; omega); have HY := Aside0.mk (blk_below (blk3 _ _ _ _) hb1); have HB1 := Aside0.mk (below_step (w := w) (by repeat (first | exact Below.refl _ _ | apply below_alloc)) hb1); have kI : w1.cell? ⟨w.heap.size + 1, 0, none⟩ = some (.int .i64 i) := (blk_cell (blk_below (blk3b w _ _ _) hb1) 0).trans rfl; clear hc1 hf1 hb1; have d0 := pw_cell_below HB1.out D0.out; have d1 := pw_cell_below HB1.out D1.out; have d3 := pw_cell_below HB1.out D3.out; have d4 := pw_cell_below HB1.out D4.out; (try have d5 := pw_cell_below HB1.out D5.out))
      refine bodyPost_ret (results_ct rfl _ _ (w.heap.size + 2) 34 #[.int .i64 x.tm, .slice (some ad1) x.st.length c1, .slice A2 x.si.length c2, .slice (some ad3) x.pu.length c3, .slice (some ad4) x.he.length c4] (0, 0) _ rfl (set5 HY.out _ _ _ _ _) hu34 rfl (by kernel_rfl)) rfl ?_
      exact gives_ret (a := ⟨some ad1, c1, A2, c2, some ad3, c3, some ad4, c4⟩) (by omega) HB1.out HX.out
    have q1 : (rd x.st i != 0) = false := by simpa using s1
    by_cases s2 : rdOf false x.pu i = true
    · have hS : startF l x i = (x, 51) := by rw [HS]; rw [if_neg s1, if_pos (.inl s2)]
      rw [hS]
      clear hS HS
      clear s1
      go_enter Try.func13, Try.ntmps13
      go_wp2_with (go_at_call 30; (with_reducible refine (checked_calls l (some ad0) c x ⟨some ad1, c1, A2, c2, some ad3, c3, some ad4, c4⟩ i _ (Kd.C_below HL.out (by repeat (first | exact Below.refl _ _ | apply below_alloc))) HC.out HF.out (HX.out.below (by repeat (first | exact Below.refl _ _ | apply below_alloc)))).mono ?_); rintro e w1 ⟨rfl, hb1⟩; rw [HE.out]; obtain ⟨hc1, hf1⟩ := bcell hb1; have q0 := fun o => hc1 (w.heap.size) o (by simp only [World.size_alloc]; omega); have q1 := fun o => hc1 (w.heap.size + 1) o (by simp only [World.size_alloc]; omega); have q2 := fun o => hc1 (w.heap.size + 2) o (by simp only [World.size_alloc]; omega); have p2 := fun o => hf1 (w.heap.size + 2) o (by simp only [World.size_alloc]; omega); have HY := Aside0.mk (blk_below (blk3 _ _ _ _) hb1); have HB1 := Aside0.mk (below_step (w := w) (by repeat (first | exact Below.refl _ _ | apply below_alloc)) hb1); have kI : w1.cell? ⟨w.heap.size + 1, 0, none⟩ = some (.int .i64 i) := (blk_cell (blk_below (blk3b w _ _ _) hb1) 0).trans rfl; clear hc1 hf1 hb1; have d0 := pw_cell_below HB1.out D0.out; have d1 := pw_cell_below HB1.out D1.out; have d3 := pw_cell_below HB1.out D3.out; have d4 := pw_cell_below HB1.out D4.out; (try have d5 := pw_cell_below HB1.out D5.out))
      refine bodyPost_ret (results_ct rfl _ _ (w.heap.size + 2) 34 #[.int .i64 x.tm, .slice (some ad1) x.st.length c1, .slice A2 x.si.length c2, .slice (some ad3) x.pu.length c3, .slice (some ad4) x.he.length c4] (0, 0) _ rfl (set5 HY.out _ _ _ _ _) hu34 rfl (by kernel_rfl)) rfl ?_
      exact gives_ret (a := ⟨some ad1, c1, A2, c2, some ad3, c3, some ad4, c4⟩) (by omega) HB1.out HX.out
    have s2 := Bool.eq_false_iff.2 s2
    by_cases s3 : rdOf false x.he i = true
    · have hS : startF l x i = (x, 51) := by rw [HS]; rw [if_neg s1, if_pos (.inr s3)]
      rw [hS]
      clear hS HS
      clear s1
      go_enter Try.func13, Try.ntmps13
      go_wp2_with (go_at_call 30; (with_reducible refine (checked_calls l (some ad0) c x ⟨some ad1, c1, A2, c2, some ad3, c3, some ad4, c4⟩ i _ (Kd.C_below HL.out (by repeat (first | exact Below.refl _ _ | apply below_alloc))) HC.out HF.out (HX.out.below (by repeat (first | exact Below.refl _ _ | apply below_alloc)))).mono ?_); rintro e w1 ⟨rfl, hb1⟩; rw [HE.out]; obtain ⟨hc1, hf1⟩ := bcell hb1; have q0 := fun o => hc1 (w.heap.size) o (by simp only [World.size_alloc]; omega); have q1 := fun o => hc1 (w.heap.size + 1) o (by simp only [World.size_alloc]; omega); have q2 := fun o => hc1 (w.heap.size + 2) o (by simp only [World.size_alloc]; omega); have p2 := fun o => hf1 (w.heap.size + 2) o (by simp only [World.size_alloc]; omega); have HY := Aside0.mk (blk_below (blk3 _ _ _ _) hb1); have HB1 := Aside0.mk (below_step (w := w) (by repeat (first | exact Below.refl _ _ | apply below_alloc)) hb1); have kI : w1.cell? ⟨w.heap.size + 1, 0, none⟩ = some (.int .i64 i) := (blk_cell (blk_below (blk3b w _ _ _) hb1) 0).trans rfl; clear hc1 hf1 hb1; have d0 := pw_cell_below HB1.out D0.out; have d1 := pw_cell_below HB1.out D1.out; have d3 := pw_cell_below HB1.out D3.out; have d4 := pw_cell_below HB1.out D4.out; (try have d5 := pw_cell_below HB1.out D5.out))
      refine bodyPost_ret (results_ct rfl _ _ (w.heap.size + 2) 34 #[.int .i64 x.tm, .slice (some ad1) x.st.length c1, .slice A2 x.si.length c2, .slice (some ad3) x.pu.length c3, .slice (some ad4) x.he.length c4] (0, 0) _ rfl (set5 HY.out _ _ _ _ _) hu34 rfl (by kernel_rfl)) rfl ?_
      exact gives_ret (a := ⟨some ad1, c1, A2, c2, some ad3, c3, some ad4, c4⟩) (by omega) HB1.out HX.out
    have s3 := Bool.eq_false_iff.2 s3
    have HS2 : startF l x i = if 0 ≤ up l i ∧ rd x.st (up l i) ≠ 2 then (x, 10) else ({ x with st := x.st.set i.toNat 1, si := x.si.set i.toNat x.tm }, 0) := by rw [HS, if_neg s1, if_neg (by simp [s2, s3])]
    clear HS s1
    have HS := HS2
    clear HS2
    have hup : (rd_T31 l i).f0 = up l i := rfl
    rw [hup] at D0
    clear hup
    by_cases s4 : 0 ≤ up l i
    · obtain ⟨ad5, e5, d5⟩ := Kd.at_int HX.out.r1 (up l i) s4 (by omega)
      cases e5
      have D5 := Aside0.mk d5
      clear d5
      by_cases s5 : rd x.st (up l i) ≠ 2
      · have hS : startF l x i = (x, 10) := by rw [HS]; rw [if_pos ⟨s4, s5⟩]
        rw [hS]
        clear hS HS
        have q : (rd x.st (up l i) != 2) = true := by simp [s5]
        clear s5
        go_enter Try.func13, Try.ntmps13
        go_wp2_with (go_at_call 30; (with_reducible refine (checked_calls l (some ad0) c x ⟨some ad1, c1, A2, c2, some ad3, c3, some ad4, c4⟩ i _ (Kd.C_below HL.out (by repeat (first | exact Below.refl _ _ | apply below_alloc))) HC.out HF.out (HX.out.below (by repeat (first | exact Below.refl _ _ | apply below_alloc)))).mono ?_); rintro e w1 ⟨rfl, hb1⟩; rw [HE.out]; obtain ⟨hc1, hf1⟩ := bcell hb1; have q0 := fun o => hc1 (w.heap.size) o (by simp only [World.size_alloc]; omega); have q1 := fun o => hc1 (w.heap.size + 1) o (by simp only [World.size_alloc]; omega); have q2 := fun o => hc1 (w.heap.size + 2) o (by simp only [World.size_alloc]; omega); have p2 := fun o => hf1 (w.heap.size + 2) o (by simp only [World.size_alloc]; omega); have HY := Aside0.mk (blk_below (blk3 _ _ _ _) hb1); have HB1 := Aside0.mk (below_step (w := w) (by repeat (first | exact Below.refl _ _ | apply below_alloc)) hb1); have kI : w1.cell? ⟨w.heap.size + 1, 0, none⟩ = some (.int .i64 i) := (blk_cell (blk_below (blk3b w _ _ _) hb1) 0).trans rfl; clear hc1 hf1 hb1; have d0 := pw_cell_below HB1.out D0.out; have d1 := pw_cell_below HB1.out D1.out; have d3 := pw_cell_below HB1.out D3.out; have d4 := pw_cell_below HB1.out D4.out; (try have d5 := pw_cell_below HB1.out D5.out))
        refine bodyPost_ret (results_ct rfl _ _ (w.heap.size + 2) 34 #[.int .i64 x.tm, .slice (some ad1) x.st.length c1, .slice A2 x.si.length c2, .slice (some ad3) x.pu.length c3, .slice (some ad4) x.he.length c4] (0, 0) _ rfl (set5 HY.out _ _ _ _ _) hu34 rfl (by kernel_rfl)) rfl ?_
        exact gives_ret (a := ⟨some ad1, c1, A2, c2, some ad3, c3, some ad4, c4⟩) (by omega) HB1.out HX.out
      · have hS : startF l x i = ({ x with st := x.st.set i.toNat 1, si := x.si.set i.toNat x.tm }, 0) := by rw [HS]; rw [if_neg (by rintro ⟨_, h⟩; exact s5 h)]
        rw [hS]
        clear hS HS
        have q : (rd x.st (up l i) != 2) = false := by simpa using s5
        clear s5
        go_enter Try.func13, Try.ntmps13
        go_wp2_with (first | (go_at_call 30; (with_reducible refine (checked_calls l (some ad0) c x ⟨some ad1, c1, A2, c2, some ad3, c3, some ad4, c4⟩ i _ (Kd.C_below HL.out (by repeat (first | exact Below.refl _ _ | apply below_alloc))) HC.out HF.out (HX.out.below (by repeat (first | exact Below.refl _ _ | apply below_alloc)))).mono ?_); rintro e w1 ⟨rfl, hb1⟩; rw [HE.out]; obtain ⟨hc1, hf1⟩ := bcell hb1; have q0 := fun o => hc1 (w.heap.size) o (by simp only [World.size_alloc]; omega); have q1 := fun o => hc1 (w.heap.size + 1) o (by simp only [World.size_alloc]; omega); have q2 := fun o => hc1 (w.heap.size + 2) o (by simp only [World.size_alloc]; omega); have p2 := fun o => hf1 (w.heap.size + 2) o (by simp only [World.size_alloc]; omega); have HY := Aside0.mk (blk_below (blk3 _ _ _ _) hb1); have HB1 := Aside0.mk (below_step (w := w) (by repeat (first | exact Below.refl _ _ | apply below_alloc)) hb1); have kI : w1.cell? ⟨w.heap.size + 1, 0, none⟩ = some (.int .i64 i) := (blk_cell (blk_below (blk3b w _ _ _) hb1) 0).trans rfl; clear hc1 hf1 hb1; have d0 := pw_cell_below HB1.out D0.out; have d1 := pw_cell_below HB1.out D1.out; have d3 := pw_cell_below HB1.out D3.out; have d4 := pw_cell_below HB1.out D4.out; (try have d5 := pw_cell_below HB1.out D5.out)) | (go_at_call 31; go_loud ((with_reducible refine (done_calls ⟨some ad1, c1, A2, c2, some ad3, c3, some ad4, c4⟩ x { x with st := x.st.set i.toNat 1, si := x.si.set i.toNat x.tm } 32 _ #[.pointer (some ⟨w.heap.size + 1, 0, none⟩)] _ (HX.out.below HB1.out) (vl_lz HV.out) Try.func32 rfl rfl (start_change x i (w.heap.size + 1) _ kI i0 t1 t2)).mono ?_); rintro e w2 ⟨v1, v2, v3, v4, rfl, hm, hb2⟩; obtain ⟨g1, y1, rfl⟩ := Kd.R_slice hm.r1; obtain ⟨g2, y2, rfl⟩ := Kd.R_slice hm.r2; obtain ⟨g3, y3, rfl⟩ := Kd.R_slice hm.r3; obtain ⟨g4, y4, rfl⟩ := Kd.R_slice hm.r4; have hy2 := blk_below HY.out hb2; have r0 := (blk_cell hy2 0).trans rfl; have r1 := (blk_cell hy2 1).trans rfl; have r2 := (blk_cell hy2 2).trans rfl; have r3 := (blk_cell hy2 3).trans rfl; have r4 := (blk_cell hy2 4).trans rfl; have f0 := blk_frozen hy2 0; have f1 := blk_frozen hy2 1; have f2 := blk_frozen hy2 2; have f3 := blk_frozen hy2 3; have f4 := blk_frozen hy2 4; have HM := Aside0.mk hm; have HB2 := Aside0.mk hb2; have HY2 := Aside0.mk hy2; clear hm hb2 hy2)))
        refine bodyPost_ret (results_ct rfl _ _ (w.heap.size + 2) 34 #[.int .i64 x.tm, .slice g1 x.st.length y1, .slice g2 x.si.length y2, .slice g3 x.pu.length y3, .slice g4 x.he.length y4] (0, 0) _ rfl (set5 HY2.out _ _ _ _ _) hu34 rfl (by kernel_rfl)) rfl ?_
        have e := gives_made (x0 := x) (a0 := ⟨some ad1, c1, A2, c2, some ad3, c3, some ad4, c4⟩) (y := { x with st := x.st.set i.toNat 1, si := x.si.set i.toNat x.tm }) (err := 0) (by omega : w.heap.size ≤ w.heap.size + 2) (blk_lt HY.out) HB1.out HB2.out HM.out
        simp only [List.length_set] at e
        exact e
    · have hS : startF l x i = ({ x with st := x.st.set i.toNat 1, si := x.si.set i.toNat x.tm }, 0) := by rw [HS]; rw [if_neg (by rintro ⟨h, _⟩; exact s4 h)]
      rw [hS]
      clear hS HS
      go_enter Try.func13, Try.ntmps13
      go_wp2_with (first | (go_at_call 30; (with_reducible refine (checked_calls l (some ad0) c x ⟨some ad1, c1, A2, c2, some ad3, c3, some ad4, c4⟩ i _ (Kd.C_below HL.out (by repeat (first | exact Below.refl _ _ | apply below_alloc))) HC.out HF.out (HX.out.below (by repeat (first | exact Below.refl _ _ | apply below_alloc)))).mono ?_); rintro e w1 ⟨rfl, hb1⟩; rw [HE.out]; obtain ⟨hc1, hf1⟩ := bcell hb1; have q0 := fun o => hc1 (w.heap.size) o (by simp only [World.size_alloc]; omega); have q1 := fun o => hc1 (w.heap.size + 1) o (by simp only [World.size_alloc]; omega); have q2 := fun o => hc1 (w.heap.size + 2) o (by simp only [World.size_alloc]; omega); have p2 := fun o => hf1 (w.heap.size + 2) o (by simp only [World.size_alloc]; omega); have HY := Aside0.mk (blk_below (blk3 _ _ _ _) hb1); have HB1 := Aside0.mk (below_step (w := w) (by repeat (first | exact Below.refl _ _ | apply below_alloc)) hb1); have kI : w1.cell? ⟨w.heap.size + 1, 0, none⟩ = some (.int .i64 i) := (blk_cell (blk_below (blk3b w _ _ _) hb1) 0).trans rfl; clear hc1 hf1 hb1; have d0 := pw_cell_below HB1.out D0.out; have d1 := pw_cell_below HB1.out D1.out; have d3 := pw_cell_below HB1.out D3.out; have d4 := pw_cell_below HB1.out D4.out; (try have d5 := pw_cell_below HB1.out D5.out)) | (go_at_call 31; go_loud ((with_reducible refine (done_calls ⟨some ad1, c1, A2, c2, some ad3, c3, some ad4, c4⟩ x { x with st := x.st.set i.toNat 1, si := x.si.set i.toNat x.tm } 32 _ #[.pointer (some ⟨w.heap.size + 1, 0, none⟩)] _ (HX.out.below HB1.out) (vl_lz HV.out) Try.func32 rfl rfl (start_change x i (w.heap.size + 1) _ kI i0 t1 t2)).mono ?_); rintro e w2 ⟨v1, v2, v3, v4, rfl, hm, hb2⟩; obtain ⟨g1, y1, rfl⟩ := Kd.R_slice hm.r1; obtain ⟨g2, y2, rfl⟩ := Kd.R_slice hm.r2; obtain ⟨g3, y3, rfl⟩ := Kd.R_slice hm.r3; obtain ⟨g4, y4, rfl⟩ := Kd.R_slice hm.r4; have hy2 := blk_below HY.out hb2; have r0 := (blk_cell hy2 0).trans rfl; have r1 := (blk_cell hy2 1).trans rfl; have r2 := (blk_cell hy2 2).trans rfl; have r3 := (blk_cell hy2 3).trans rfl; have r4 := (blk_cell hy2 4).trans rfl; have f0 := blk_frozen hy2 0; have f1 := blk_frozen hy2 1; have f2 := blk_frozen hy2 2; have f3 := blk_frozen hy2 3; have f4 := blk_frozen hy2 4; have HM := Aside0.mk hm; have HB2 := Aside0.mk hb2; have HY2 := Aside0.mk hy2; clear hm hb2 hy2)))
      refine bodyPost_ret (results_ct rfl _ _ (w.heap.size + 2) 34 #[.int .i64 x.tm, .slice g1 x.st.length y1, .slice g2 x.si.length y2, .slice g3 x.pu.length y3, .slice g4 x.he.length y4] (0, 0) _ rfl (set5 HY2.out _ _ _ _ _) hu34 rfl (by kernel_rfl)) rfl ?_
      have e := gives_made (x0 := x) (a0 := ⟨some ad1, c1, A2, c2, some ad3, c3, some ad4, c4⟩) (y := { x with st := x.st.set i.toNat 1, si := x.si.set i.toNat x.tm }) (err := 0) (by omega : w.heap.size ≤ w.heap.size + 2) (blk_lt HY.out) HB1.out HB2.out HM.out
      simp only [List.length_set] at e
      exact e
  · have hS : startF l x i = (x, E) := by unfold startF; rw [if_pos (by rw [hE]; exact h0), hE]
    rw [hS]
    have HE := Aside0.mk hE
    have t0 : (E != 0) = true := by simp [h0]
    clear hS hE h0
    go_enter Try.func13, Try.ntmps13
    go_wp2_with (go_at_call 30; (with_reducible refine (checked_calls l A c x a i _ (Kd.C_below HL.out (by repeat (first | exact Below.refl _ _ | apply below_alloc))) HC.out HF.out (HX.out.below (by repeat (first | exact Below.refl _ _ | apply below_alloc)))).mono ?_); rintro e w1 ⟨rfl, hb1⟩; rw [HE.out]; obtain ⟨hc1, hf1⟩ := bcell hb1; have q0 := fun o => hc1 (w.heap.size) o (by simp only [World.size_alloc]; omega); have q1 := fun o => hc1 (w.heap.size + 1) o (by simp only [World.size_alloc]; omega); have q2 := fun o => hc1 (w.heap.size + 2) o (by simp only [World.size_alloc]; omega); have p2 := fun o => hf1 (w.heap.size + 2) o (by simp only [World.size_alloc]; omega); have HY := Aside0.mk (blk_below (blk3 _ _ _ _) hb1); have HB1 := Aside0.mk (below_step (w := w) (by repeat (first | exact Below.refl _ _ | apply below_alloc)) hb1); clear hc1 hf1 hb1)
    refine bodyPost_ret (results_ct rfl _ _ (w.heap.size + 2) 34 #[.int .i64 x.tm, .slice a.A1 x.st.length a.c1, .slice a.A2 x.si.length a.c2, .slice a.A3 x.pu.length a.c3, .slice a.A4 x.he.length a.c4] (0, 0) _ rfl (set5 HY.out _ _ _ _ _) hu34 rfl (by kernel_rfl)) rfl ?_
    exact gives_ret (by omega) HB1.out HX.out
end Go.Proofs.Ytejmjeanhlkenaa.HandA
