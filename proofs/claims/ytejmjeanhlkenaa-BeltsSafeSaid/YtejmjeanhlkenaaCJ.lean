import Derived.Test.YtejmjeanhlkenaaCP24
import Derived.Test.YtejmjeanhlkenaaCI
/- The reference's functions over lines, walked: a copy first. -/
namespace Go.Proofs.Ytejmjeanhlkenaa.HandA
open Go.RowKit Go.Proofs.Ytejmjeanhlkenaa.PB Go.Proofs.YtejmjeanhlkenaaW.PrintWords Go.Proofs.YtejmjeanhlkenaaW.PrintLast Go.Proofs.YtejmjeanhlkenaaW.PrintMore
set_option linter.unusedVariables false
set_option linter.unusedSimpArgs false
theorem rcopy_calls (x : Ln) (a : La) (w : World) (hx : LC w a x) (hz : Lz x) :
    Calls Try.prog 23 #[.agg #[.int .i64 x.tm, .slice a.A1 x.st.length a.c1, .slice a.A2 x.si.length a.c2, .slice a.A3 x.pu.length a.c3, .slice a.A4 x.he.length a.c4]] w fun e w' => ∃ v1 v2 v3 v4, e = .returned (.agg #[.int .i64 x.tm, v1, v2, v3, v4]) ∧ Made w' w.heap.size v1 v2 v3 v4 x ∧ Below w.heap.size w w' := by
  obtain ⟨z1, z2, z3, z4⟩ := hz
  refine (ref39_Copy.calls x.tm a.A1 a.c1 x.st a.A2 a.c2 x.si a.A3 a.c3 x.pu a.A4 a.c4 x.he x.tm x.st x.si x.pu x.he w hx.r1 hx.l1 hx.r2 hx.l2 hx.r3 hx.l3 hx.r4 hx.l4 ?_).mono ?_
  · unfold ref39_Copy.f
    rw [if_pos (by simpa using z1), if_pos (by simpa using z2), if_pos (by simp; omega), if_pos (by simp; omega)]
    rfl
  · rintro e w' ⟨v1, v2, v3, v4, rfl, h1, h2, h3, h4, hb⟩
    exact ⟨v1, v2, v3, v4, rfl, ⟨h1, h2, h3, h4⟩, hb⟩
/-- What a function of the reference comes to: a line of its own, and a number. -/
def GivesM (w : World) (y : Ln) (err : Int) (e : Ending) (w' : World) : Prop :=
  ∃ v1 v2 v3 v4, e = .returned (.tuple #[.agg #[.int .i64 y.tm, v1, v2, v3, v4], .int .i64 err]) ∧ Made w' w.heap.size v1 v2 v3 v4 y ∧ Below w.heap.size w w'
/-- .. a line alone. -/
def GivesL (w : World) (y : Ln) (e : Ending) (w' : World) : Prop :=
  ∃ v1 v2 v3 v4, e = .returned (.agg #[.int .i64 y.tm, v1, v2, v3, v4]) ∧ Made w' w.heap.size v1 v2 v3 v4 y ∧ Below w.heap.size w w'
/-- A line that was made is put into a variable. -/
theorem own_made {w1 : World} {base b B : Nat} {v1 v2 v3 v4 a0 a1 a2 a3 a4 : Value} {x : Ln} (hm : Made w1 b v1 v2 v3 v4 x) (hbox : w1.heap[B]? = some (.cells #[a0, a1, a2, a3, a4] 34 (0, 0))) (h1 : base ≤ b) (h2 : base ≤ B) :
    Own (((((w1.setCell ⟨B, 0, none⟩ (.int .i64 x.tm)).setCell ⟨B, 1, none⟩ v1).setCell ⟨B, 2, none⟩ v2).setCell ⟨B, 3, none⟩ v3).setCell ⟨B, 4, none⟩ v4) base B v1 v2 v3 v4 x := by
  have SS := same5 w1 B (.int .i64 x.tm) v1 v2 v3 v4
  exact ⟨set5 hbox _ _ _ _ _, h2, R_sameT (Kd.R_lower hm.r1 h1) SS hbox (by decide), R_sameT (Kd.R_lower hm.r2 h1) SS hbox (by decide), R_sameT (Kd.R_lower hm.r3 h1) SS hbox (by decide), R_sameT (Kd.R_lower hm.r4 h1) SS hbox (by decide)⟩
theorem Own.made {W : World} {base B : Nat} {v1 v2 v3 v4 : Value} {x : Ln} (h : Own W base B v1 v2 v3 v4 x) : Made W base v1 v2 v3 v4 x := ⟨h.r1, h.r2, h.r3, h.r4⟩
theorem Own.below {W W1 : World} {base B : Nat} {v1 v2 v3 v4 : Value} {x : Ln} (h : Own W base B v1 v2 v3 v4 x) (hb : Below W.heap.size W W1) : Own W1 base B v1 v2 v3 v4 x :=
  ⟨blk_below h.box hb, h.hB, Kd.R_below h.r1 hb, Kd.R_below h.r2 hb, Kd.R_below h.r3 hb, Kd.R_below h.r4 hb⟩
/-- A line of the call's own is returned. -/
theorem give_own {w W : World} {B B' : Nat} {v1 v2 v3 v4 a0 a1 a2 a3 a4 : Value} {y : Ln} {err : Int} (ho : Own W w.heap.size B v1 v2 v3 v4 y) (hY : W.heap[B']? = some (.cells #[a0, a1, a2, a3, a4] 34 (0, 0))) (hB' : w.heap.size ≤ B') (hb : Below w.heap.size w W) :
    GivesM w y err (.returned (.tuple #[.agg #[.int .i64 y.tm, v1, v2, v3, v4], .int .i64 err])) (((((W.setCell ⟨B', 0, none⟩ (.int .i64 y.tm)).setCell ⟨B', 1, none⟩ v1).setCell ⟨B', 2, none⟩ v2).setCell ⟨B', 3, none⟩ v3).setCell ⟨B', 4, none⟩ v4) := by
  have SS := same5 W B' (.int .i64 y.tm) v1 v2 v3 v4
  exact ⟨v1, v2, v3, v4, rfl, ⟨R_sameT ho.r1 SS hY (by decide), R_sameT ho.r2 SS hY (by decide), R_sameT ho.r3 SS hY (by decide), R_sameT ho.r4 SS hY (by decide)⟩, below_same hb SS hB'⟩
theorem give_ownL {w W : World} {B B' : Nat} {v1 v2 v3 v4 a0 a1 a2 a3 a4 : Value} {y : Ln} (ho : Own W w.heap.size B v1 v2 v3 v4 y) (hY : W.heap[B']? = some (.cells #[a0, a1, a2, a3, a4] 34 (0, 0))) (hB' : w.heap.size ≤ B') (hb : Below w.heap.size w W) :
    GivesL w y (.returned (.agg #[.int .i64 y.tm, v1, v2, v3, v4])) (((((W.setCell ⟨B', 0, none⟩ (.int .i64 y.tm)).setCell ⟨B', 1, none⟩ v1).setCell ⟨B', 2, none⟩ v2).setCell ⟨B', 3, none⟩ v3).setCell ⟨B', 4, none⟩ v4) := by
  have SS := same5 W B' (.int .i64 y.tm) v1 v2 v3 v4
  exact ⟨v1, v2, v3, v4, rfl, ⟨R_sameT ho.r1 SS hY (by decide), R_sameT ho.r2 SS hY (by decide), R_sameT ho.r3 SS hY (by decide), R_sameT ho.r4 SS hY (by decide)⟩, below_same hb SS hB'⟩

theorem blk2 (w : World) (o0 o1 : Obj) : ((w.alloc o0).alloc o1).heap[w.heap.size + 1]? = some o1 := by
  have := blk_new (w.alloc o0) o1
  simpa using this

theorem Own.LC {W : World} {base B n1 n2 n3 n4 c1 c2 c3 c4 : Nat} {A1 A2 A3 A4 : Option Addr} {x : Ln} (h : Own W base B (.slice A1 n1 c1) (.slice A2 n2 c2) (.slice A3 n3 c3) (.slice A4 n4 c4) x) : LC W ⟨A1, c1, A2, c2, A3, c3, A4, c4⟩ x := by
  obtain ⟨e1, l1, r1⟩ := Kd.R_reads' h.r1
  obtain ⟨e2, l2, r2⟩ := Kd.R_reads' h.r2
  obtain ⟨e3, l3, r3⟩ := Kd.R_reads' h.r3
  obtain ⟨e4, l4, r4⟩ := Kd.R_reads' h.r4
  subst e1 e2 e3 e4
  exact ⟨r1, l1, r2, l2, r3, l3, r4, l4⟩
theorem Own.addr {W : World} {base B : Nat} {A1 A2 A3 A4 : Option Addr} {c1 c2 c3 c4 : Nat} {x : Ln} (h : Own W base B (.slice A1 x.st.length c1) (.slice A2 x.si.length c2) (.slice A3 x.pu.length c3) (.slice A4 x.he.length c4) x) {N : Nat} (hl : Lens x N) (hN : 0 < N) :
    ∃ g1 g2 g3 g4, A1 = some ⟨g1, 0, none⟩ ∧ A2 = some ⟨g2, 0, none⟩ ∧ A3 = some ⟨g3, 0, none⟩ ∧ A4 = some ⟨g4, 0, none⟩ := by
  obtain ⟨e1, e2, e3, e4⟩ := hl
  obtain ⟨g1, _, h1, _⟩ := Kd.R_form h.r1 (by omega)
  obtain ⟨g2, _, h2, _⟩ := Kd.R_form h.r2 (by omega)
  obtain ⟨g3, _, h3, _⟩ := Kd.R_form h.r3 (by omega)
  obtain ⟨g4, _, h4, _⟩ := Kd.R_form h.r4 (by omega)
  exact ⟨g1, g2, g3, g4, by injection h1, by injection h2, by injection h3, by injection h4⟩

set_option maxHeartbeats 4000000 in
set_option maxRecDepth 100000 in
theorem rstart_calls (l : List S31) (A : Option Addr) (c : Nat) (x : Ln) (a : La) (i : Int) (w : World) (hl : Kd.C k31 w A l.length l) (hc : l.length ≤ c) (hfit : Fit l.length) (hx : LC w a x) (hz : Lz x) :
    Calls Try.prog 45 #[.slice A l.length c, .agg #[.int .i64 x.tm, .slice a.A1 x.st.length a.c1, .slice a.A2 x.si.length a.c2, .slice a.A3 x.pu.length a.c3, .slice a.A4 x.he.length a.c4], .int .i64 i] w (GivesM w (startF l x i).1 (startF l x i).2) := by
  have HL := Aside0.mk hl
  have HC := Aside0.mk hc
  have HX := Aside0.mk hx
  have HF := Aside0.mk hfit
  have HZ := Aside0.mk hz
  have hu34 := Try.underlying34
  clear hl hc hfit hx hz
  obtain ⟨E, hE⟩ : ∃ E, chk l x i = E := ⟨_, rfl⟩
  by_cases h0 : E = 0
  · subst h0
    obtain ⟨hv, i0, i1⟩ := chk_zero hE
    have HE := Aside0.mk hE
    have HV := Aside0.mk hv
    have hlen := hv.len
    have hN := hv.snd.len
    generalize hR : startF l x i = R
    have HR := Aside0.mk hR
    clear hR
    go_enter Try.func45, Try.ntmps45
    go_upto_region 2 with (go_at_call 23; (with_reducible refine (rcopy_calls x a _ (HX.out.below (by repeat (first | exact Below.refl _ _ | apply below_alloc))) HZ.out).mono ?_); rintro e w1 ⟨v1, v2, v3, v4, rfl, hm, hb1⟩; have hbx := blk_below (blk_alloc (blk_new w _) _) hb1; have hby := blk_below (blk2 w _ _) hb1; obtain ⟨g1, n1, y1, rfl⟩ := R_sl hm.r1; obtain ⟨g2, n2, y2, rfl⟩ := R_sl hm.r2; obtain ⟨g3, n3, y3, rfl⟩ := R_sl hm.r3; obtain ⟨g4, n4, y4, rfl⟩ := R_sl hm.r4; have b0 := (blk_cell hbx 0).trans rfl; have b1 := (blk_cell hbx 1).trans rfl; have b2 := (blk_cell hbx 2).trans rfl; have b3 := (blk_cell hbx 3).trans rfl; have b4 := (blk_cell hbx 4).trans rfl; have f0 := blk_frozen hbx 0; have f1 := blk_frozen hbx 1; have f2 := blk_frozen hbx 2; have f3 := blk_frozen hbx 3; have f4 := blk_frozen hbx 4; have HM := Aside0.mk hm; have HBX := Aside0.mk hbx; have HBY := Aside0.mk hby; have HB1 := Aside0.mk hb1; clear hm hbx hby hb1)
    have hO := own_made HM.out HBX.out (base := w.heap.size) (by simp only [World.size_alloc]; omega) (Nat.le_refl _)
    have hb := below_same (below_step (w := w) (by repeat (first | exact Below.refl _ _ | apply below_alloc)) HB1.out) (same5 w1 w.heap.size (.int .i64 x.tm) (.slice g1 n1 y1) (.slice g2 n2 y2) (.slice g3 n3 y3) (.slice g4 n4 y4)) (Nat.le_refl _)
    have hY := blk_same HBY.out (same5 w1 w.heap.size (.int .i64 x.tm) (.slice g1 n1 y1) (.slice g2 n2 y2) (.slice g3 n3 y3) (.slice g4 n4 y4)) (by omega)
    clear b0 b1 b2 b3 b4 f0 f1 f2 f3 f4 HM HBX HBY HB1
    generalize (((((w1.setCell ⟨w.heap.size, 0, none⟩ (.int .i64 x.tm)).setCell ⟨w.heap.size, 1, none⟩ (.slice g1 n1 y1)).setCell ⟨w.heap.size, 2, none⟩ (.slice g2 n2 y2)).setCell ⟨w.heap.size, 3, none⟩ (.slice g3 n3 y3)).setCell ⟨w.heap.size, 4, none⟩ (.slice g4 n4 y4)) = W2 at hO hb hY ⊢
    obtain rfl := hO.len1
    obtain rfl := hO.len2
    obtain rfl := hO.len3
    obtain rfl := hO.len4
    obtain ⟨a1, a2, a3, a4, rfl, rfl, rfl, rfl⟩ := hO.addr hlen (by omega)
    have b0 : W2.cell? ⟨w.heap.size, 0, none⟩ = some (.int .i64 x.tm) := (blk_cell hO.box 0).trans rfl; have b1 : W2.cell? ⟨w.heap.size, 1, none⟩ = some (.slice (some ⟨a1, 0, none⟩) x.st.length y1) := (blk_cell hO.box 1).trans rfl; have b2 : W2.cell? ⟨w.heap.size, 2, none⟩ = some (.slice (some ⟨a2, 0, none⟩) x.si.length y2) := (blk_cell hO.box 2).trans rfl; have b3 : W2.cell? ⟨w.heap.size, 3, none⟩ = some (.slice (some ⟨a3, 0, none⟩) x.pu.length y3) := (blk_cell hO.box 3).trans rfl; have b4 : W2.cell? ⟨w.heap.size, 4, none⟩ = some (.slice (some ⟨a4, 0, none⟩) x.he.length y4) := (blk_cell hO.box 4).trans rfl
    have HO := Aside0.mk hO
    have HB := Aside0.mk hb
    have HY := Aside0.mk hY
    clear hO hb hY
    obtain ⟨z1, z2, z3, z4⟩ := hlen
    have t1 : i < (x.st.length : Int) := by omega
    have t2 : i < (x.si.length : Int) := by omega
    have t3 : i < (x.pu.length : Int) := by omega
    have t4 : i < (x.he.length : Int) := by omega
    clear z1 z2 z3 z4 hE hv
    obtain ⟨u0, u1⟩ := HV.out.snd.inb i i0 i1
    obtain ⟨ad0, e0, d0, _⟩ := at_T31 HL.out i i0 i1
    subst e0
    have D0 := Aside0.mk d0
    clear d0
    have t5 : up l i < (x.st.length : Int) := by have := HV.out.len.e1; omega
    go_upto_region 5 with (go_at_call 57; (with_reducible refine (rcheck_calls l (some ad0) c x ⟨(some ⟨a1, 0, none⟩), y1, (some ⟨a2, 0, none⟩), y2, (some ⟨a3, 0, none⟩), y3, (some ⟨a4, 0, none⟩), y4⟩ i _ (Kd.C_below HL.out HB.out) HC.out HF.out HO.out.LC).mono ?_); rintro e w3 ⟨rfl, hb3⟩; rw [HE.out]; have ho3 := HO.out.below hb3; have hy3 := blk_below HY.out hb3; have b0 : w3.cell? ⟨w.heap.size, 0, none⟩ = some (.int .i64 x.tm) := (blk_cell ho3.box 0).trans rfl; have b1 : w3.cell? ⟨w.heap.size, 1, none⟩ = some (.slice (some ⟨a1, 0, none⟩) x.st.length y1) := (blk_cell ho3.box 1).trans rfl; have b2 : w3.cell? ⟨w.heap.size, 2, none⟩ = some (.slice (some ⟨a2, 0, none⟩) x.si.length y2) := (blk_cell ho3.box 2).trans rfl; have b3 : w3.cell? ⟨w.heap.size, 3, none⟩ = some (.slice (some ⟨a3, 0, none⟩) x.pu.length y3) := (blk_cell ho3.box 3).trans rfl; have b4 : w3.cell? ⟨w.heap.size, 4, none⟩ = some (.slice (some ⟨a4, 0, none⟩) x.he.length y4) := (blk_cell ho3.box 4).trans rfl; have z0 : w3.cell? ⟨w.heap.size + 1, 0, none⟩ = some (Value.int IntKind.i64 0) := (blk_cell hy3 0).trans rfl; have f0 := blk_frozen hy3 0; have z1 : w3.cell? ⟨w.heap.size + 1, 1, none⟩ = some (Value.slice none 0 0) := (blk_cell hy3 1).trans rfl; have f1 := blk_frozen hy3 1; have z2 : w3.cell? ⟨w.heap.size + 1, 2, none⟩ = some (Value.slice none 0 0) := (blk_cell hy3 2).trans rfl; have f2 := blk_frozen hy3 2; have z3 : w3.cell? ⟨w.heap.size + 1, 3, none⟩ = some (Value.slice none 0 0) := (blk_cell hy3 3).trans rfl; have f3 := blk_frozen hy3 3; have z4 : w3.cell? ⟨w.heap.size + 1, 4, none⟩ = some (Value.slice none 0 0) := (blk_cell hy3 4).trans rfl; have f4 := blk_frozen hy3 4; have HO3 := Aside0.mk ho3; have HY3 := Aside0.mk hy3; have HB3 := Aside0.mk (below_step HB.out hb3); clear ho3 hy3 hb3)
    obtain ⟨E1, F1⟩ := HO3.out.cell1 i i0 t1
    obtain ⟨E2, F2⟩ := HO3.out.cell2 i i0 t2
    obtain ⟨E3, F3⟩ := HO3.out.cell3 i i0 t3
    obtain ⟨E4, F4⟩ := HO3.out.cell4 i i0 t4
    have d0 : w3.cell? (ad0.add (i.toNat * 2)) = some (.int .i64 (up l i)) := pw_cell_below HB3.out D0.out
    have HS : startF l x i = if rd x.st i ≠ 0 then (x, 10) else if rdOf false x.pu i = true ∨ rdOf false x.he i = true then (x, 51) else if 0 ≤ up l i ∧ rd x.st (up l i) ≠ 2 then (x, 10) else ({ x with st := x.st.set i.toNat 1, si := x.si.set i.toNat x.tm }, 0) := by unfold startF; rw [if_neg (by rw [HE.out]; simp)]
    have HS := Aside0.mk (HR.out.symm.trans HS)
    by_cases s1 : rd x.st i ≠ 0
    · have hS := HS.out
      rw [if_pos s1] at hS
      subst hS
      have q : (rd x.st i != 0) = true := by simp [s1]
      clear s1
      clear HS HR
      go_wp2_with fail
      refine bodyPost_ret (results_ct rfl _ _ (w.heap.size + 1) 34 #[.int .i64 x.tm, .slice (some ⟨a1, 0, none⟩) x.st.length y1, .slice (some ⟨a2, 0, none⟩) x.si.length y2, .slice (some ⟨a3, 0, none⟩) x.pu.length y3, .slice (some ⟨a4, 0, none⟩) x.he.length y4] (0, 0) _ rfl (set5 HY3.out _ _ _ _ _) hu34 rfl (by kernel_rfl)) rfl ?_
      exact give_own HO3.out HY3.out (by omega) HB3.out
    have q1 : (rd x.st i != 0) = false := by simpa using s1
    by_cases s2 : rdOf false x.pu i = true
    · have hS := HS.out
      rw [if_neg s1, if_pos (.inl s2)] at hS
      subst hS
      clear s1
      clear HS HR
      go_wp2_with fail
      refine bodyPost_ret (results_ct rfl _ _ (w.heap.size + 1) 34 #[.int .i64 x.tm, .slice (some ⟨a1, 0, none⟩) x.st.length y1, .slice (some ⟨a2, 0, none⟩) x.si.length y2, .slice (some ⟨a3, 0, none⟩) x.pu.length y3, .slice (some ⟨a4, 0, none⟩) x.he.length y4] (0, 0) _ rfl (set5 HY3.out _ _ _ _ _) hu34 rfl (by kernel_rfl)) rfl ?_
      exact give_own HO3.out HY3.out (by omega) HB3.out
    have s2 := Bool.eq_false_iff.2 s2
    by_cases s3 : rdOf false x.he i = true
    · have hS := HS.out
      rw [if_neg s1, if_pos (.inr s3)] at hS
      subst hS
      clear s1
      clear HS HR
      go_wp2_with fail
      refine bodyPost_ret (results_ct rfl _ _ (w.heap.size + 1) 34 #[.int .i64 x.tm, .slice (some ⟨a1, 0, none⟩) x.st.length y1, .slice (some ⟨a2, 0, none⟩) x.si.length y2, .slice (some ⟨a3, 0, none⟩) x.pu.length y3, .slice (some ⟨a4, 0, none⟩) x.he.length y4] (0, 0) _ rfl (set5 HY3.out _ _ _ _ _) hu34 rfl (by kernel_rfl)) rfl ?_
      exact give_own HO3.out HY3.out (by omega) HB3.out
    have s3 := Bool.eq_false_iff.2 s3
    have hup : (rd_T31 l i).f0 = up l i := rfl
    by_cases s4 : 0 ≤ up l i
    · obtain ⟨E5, F5⟩ := HO3.out.cell1 (up l i) s4 t5
      have g4 : decide (0 ≤ up l i) = true := decide_eq_true s4
      by_cases s5 : rd x.st (up l i) ≠ 2
      · have hS := HS.out
        rw [if_neg s1, if_neg (by simp [s2, s3]), if_pos ⟨s4, s5⟩] at hS
        subst hS
        have q : (rd x.st (up l i) != 2) = true := by simp [s5]
        clear s5 s1 hup
        clear HS HR
        go_wp2_with fail
        go_quiet (fail)
        go_wp2_with fail
        refine bodyPost_ret (results_ct rfl _ _ (w.heap.size + 1) 34 #[.int .i64 x.tm, .slice (some ⟨a1, 0, none⟩) x.st.length y1, .slice (some ⟨a2, 0, none⟩) x.si.length y2, .slice (some ⟨a3, 0, none⟩) x.pu.length y3, .slice (some ⟨a4, 0, none⟩) x.he.length y4] (0, 0) _ rfl (set5 HY3.out _ _ _ _ _) hu34 rfl (by kernel_rfl)) rfl ?_
        exact give_own (HO3.out.drewN _) HY3.out (by omega) (pw_below_drewN HB3.out _)
      · have q : (rd x.st (up l i) != 2) = false := by simpa using s5
        have s5 := Aside0.mk s5
        · have hS := HS.out
          rw [if_neg s1, if_neg (by simp [s2, s3]), if_neg (by rintro ⟨_, h⟩; exact s5.out h)] at hS
          subst hS
          clear s1 hup
          obtain ⟨hne, _, n1, n2, _, _, p1, p2, _, _, ⟨cs1, hc1⟩, ⟨cs2, hc2⟩, _, _⟩ := HO3.out.facts
          have m1 : a1 ≠ w.heap.size + 1 := blk_ne hc1 HY3.out (by decide)
          have m2 : a2 ≠ w.heap.size + 1 := blk_ne hc2 HY3.out (by decide)
          have HC1 := Aside0.mk hc1
          have HC2 := Aside0.mk hc2
          clear hc1 hc2
          clear HS HR
          go_wp2_with fail
          go_quiet (fail)
          go_wp2_with fail
          go_region_held3 (fun w' => w'.cell? ⟨w.heap.size, 0, none⟩ = some (.int .i64 x.tm) ∧ w'.cell? ⟨w.heap.size, 1, none⟩ = some (.slice (some ⟨a1, 0, none⟩) x.st.length y1) ∧ w'.cell? ⟨w.heap.size, 2, none⟩ = some (.slice (some ⟨a2, 0, none⟩) x.si.length y2)) (go_keep) (fail)
          go_wp2_with fail
          have o1 := (HO3.out.drewN (nq + 1)).setSt rfl n1 (blk_drewN HC1.out (nq + 1)) i 1
          have o2 := o1.setSi rfl n2 (blk_far (blk_drewN HC2.out (nq + 1)) (Ne.symm hne) _) i x.tm
          have hy5 := blk_far (p := ⟨a2, i.toNat, none⟩) (blk_far (p := ⟨a1, i.toNat, none⟩) (blk_drewN HY3.out (nq + 1)) (Ne.symm m1) (.int .i64 1)) (Ne.symm m2) (.int .i64 x.tm)
          have bl := below_set (below_set (j := i.toNat) (v := .int .i64 1) (pw_below_drewN HB3.out (nq + 1)) p1) (j := i.toNat) (v := .int .i64 x.tm) p2
          refine bodyPost_ret (results_ct rfl _ _ (w.heap.size + 1) 34 #[.int .i64 x.tm, .slice (some ⟨a1, 0, none⟩) x.st.length y1, .slice (some ⟨a2, 0, none⟩) x.si.length y2, .slice (some ⟨a3, 0, none⟩) x.pu.length y3, .slice (some ⟨a4, 0, none⟩) x.he.length y4] (0, 0) _ rfl (set5 hy5 _ _ _ _ _) hu34 rfl (by kernel_rfl)) rfl ?_
          exact give_own o2 hy5 (by omega) bl
    have g4 : decide (0 ≤ up l i) = false := decide_eq_false s4
    · have hS := HS.out
      rw [if_neg s1, if_neg (by simp [s2, s3]), if_neg (by rintro ⟨h, _⟩; exact s4 h)] at hS
      subst hS
      clear s1 hup
      obtain ⟨hne, _, n1, n2, _, _, p1, p2, _, _, ⟨cs1, hc1⟩, ⟨cs2, hc2⟩, _, _⟩ := HO3.out.facts
      have m1 : a1 ≠ w.heap.size + 1 := blk_ne hc1 HY3.out (by decide)
      have m2 : a2 ≠ w.heap.size + 1 := blk_ne hc2 HY3.out (by decide)
      have HC1 := Aside0.mk hc1
      have HC2 := Aside0.mk hc2
      clear hc1 hc2
      clear HS HR
      go_wp2_with fail
      go_quiet (fail)
      go_wp2_with fail
      go_region_held3 (fun w' => w'.cell? ⟨w.heap.size, 0, none⟩ = some (.int .i64 x.tm) ∧ w'.cell? ⟨w.heap.size, 1, none⟩ = some (.slice (some ⟨a1, 0, none⟩) x.st.length y1) ∧ w'.cell? ⟨w.heap.size, 2, none⟩ = some (.slice (some ⟨a2, 0, none⟩) x.si.length y2)) (go_keep) (fail)
      go_wp2_with fail
      have o1 := (HO3.out.drewN (nq + 1)).setSt rfl n1 (blk_drewN HC1.out (nq + 1)) i 1
      have o2 := o1.setSi rfl n2 (blk_far (blk_drewN HC2.out (nq + 1)) (Ne.symm hne) _) i x.tm
      have hy5 := blk_far (p := ⟨a2, i.toNat, none⟩) (blk_far (p := ⟨a1, i.toNat, none⟩) (blk_drewN HY3.out (nq + 1)) (Ne.symm m1) (.int .i64 1)) (Ne.symm m2) (.int .i64 x.tm)
      have bl := below_set (below_set (j := i.toNat) (v := .int .i64 1) (pw_below_drewN HB3.out (nq + 1)) p1) (j := i.toNat) (v := .int .i64 x.tm) p2
      refine bodyPost_ret (results_ct rfl _ _ (w.heap.size + 1) 34 #[.int .i64 x.tm, .slice (some ⟨a1, 0, none⟩) x.st.length y1, .slice (some ⟨a2, 0, none⟩) x.si.length y2, .slice (some ⟨a3, 0, none⟩) x.pu.length y3, .slice (some ⟨a4, 0, none⟩) x.he.length y4] (0, 0) _ rfl (set5 hy5 _ _ _ _ _) hu34 rfl (by kernel_rfl)) rfl ?_
      exact give_own o2 hy5 (by omega) bl
  · have hS : startF l x i = (x, E) := by unfold startF; rw [if_pos (by rw [hE]; exact h0), hE]
    rw [hS]
    have HE := Aside0.mk hE
    have t0 : (E != 0) = true := by simp [h0]
    clear hS hE h0
    go_enter Try.func45, Try.ntmps45
    go_upto_region 2 with (go_at_call 23; (with_reducible refine (rcopy_calls x a _ (HX.out.below (by repeat (first | exact Below.refl _ _ | apply below_alloc))) HZ.out).mono ?_); rintro e w1 ⟨v1, v2, v3, v4, rfl, hm, hb1⟩; have hbx := blk_below (blk_alloc (blk_new w _) _) hb1; have hby := blk_below (blk2 w _ _) hb1; obtain ⟨g1, n1, y1, rfl⟩ := R_sl hm.r1; obtain ⟨g2, n2, y2, rfl⟩ := R_sl hm.r2; obtain ⟨g3, n3, y3, rfl⟩ := R_sl hm.r3; obtain ⟨g4, n4, y4, rfl⟩ := R_sl hm.r4; have b0 := (blk_cell hbx 0).trans rfl; have b1 := (blk_cell hbx 1).trans rfl; have b2 := (blk_cell hbx 2).trans rfl; have b3 := (blk_cell hbx 3).trans rfl; have b4 := (blk_cell hbx 4).trans rfl; have f0 := blk_frozen hbx 0; have f1 := blk_frozen hbx 1; have f2 := blk_frozen hbx 2; have f3 := blk_frozen hbx 3; have f4 := blk_frozen hbx 4; have HM := Aside0.mk hm; have HBX := Aside0.mk hbx; have HBY := Aside0.mk hby; have HB1 := Aside0.mk hb1; clear hm hbx hby hb1)
    have hO := own_made HM.out HBX.out (base := w.heap.size) (by simp only [World.size_alloc]; omega) (Nat.le_refl _)
    have hb := below_same (below_step (w := w) (by repeat (first | exact Below.refl _ _ | apply below_alloc)) HB1.out) (same5 w1 w.heap.size (.int .i64 x.tm) (.slice g1 n1 y1) (.slice g2 n2 y2) (.slice g3 n3 y3) (.slice g4 n4 y4)) (Nat.le_refl _)
    have hY := blk_same HBY.out (same5 w1 w.heap.size (.int .i64 x.tm) (.slice g1 n1 y1) (.slice g2 n2 y2) (.slice g3 n3 y3) (.slice g4 n4 y4)) (by omega)
    clear b0 b1 b2 b3 b4 f0 f1 f2 f3 f4 HM HBX HBY HB1
    generalize (((((w1.setCell ⟨w.heap.size, 0, none⟩ (.int .i64 x.tm)).setCell ⟨w.heap.size, 1, none⟩ (.slice g1 n1 y1)).setCell ⟨w.heap.size, 2, none⟩ (.slice g2 n2 y2)).setCell ⟨w.heap.size, 3, none⟩ (.slice g3 n3 y3)).setCell ⟨w.heap.size, 4, none⟩ (.slice g4 n4 y4)) = W2 at hO hb hY ⊢
    obtain rfl := hO.len1
    obtain rfl := hO.len2
    obtain rfl := hO.len3
    obtain rfl := hO.len4
    have b0 : W2.cell? ⟨w.heap.size, 0, none⟩ = some (.int .i64 x.tm) := (blk_cell hO.box 0).trans rfl; have b1 : W2.cell? ⟨w.heap.size, 1, none⟩ = some (.slice g1 x.st.length y1) := (blk_cell hO.box 1).trans rfl; have b2 : W2.cell? ⟨w.heap.size, 2, none⟩ = some (.slice g2 x.si.length y2) := (blk_cell hO.box 2).trans rfl; have b3 : W2.cell? ⟨w.heap.size, 3, none⟩ = some (.slice g3 x.pu.length y3) := (blk_cell hO.box 3).trans rfl; have b4 : W2.cell? ⟨w.heap.size, 4, none⟩ = some (.slice g4 x.he.length y4) := (blk_cell hO.box 4).trans rfl
    have HO := Aside0.mk hO
    have HB := Aside0.mk hb
    have HY := Aside0.mk hY
    clear hO hb hY
    go_wp2_with (go_at_call 57; (with_reducible refine (rcheck_calls l A c x ⟨g1, y1, g2, y2, g3, y3, g4, y4⟩ i _ (Kd.C_below HL.out HB.out) HC.out HF.out HO.out.LC).mono ?_); rintro e w3 ⟨rfl, hb3⟩; rw [HE.out]; have ho3 := HO.out.below hb3; have hy3 := blk_below HY.out hb3; have b0 : w3.cell? ⟨w.heap.size, 0, none⟩ = some (.int .i64 x.tm) := (blk_cell ho3.box 0).trans rfl; have b1 : w3.cell? ⟨w.heap.size, 1, none⟩ = some (.slice g1 x.st.length y1) := (blk_cell ho3.box 1).trans rfl; have b2 : w3.cell? ⟨w.heap.size, 2, none⟩ = some (.slice g2 x.si.length y2) := (blk_cell ho3.box 2).trans rfl; have b3 : w3.cell? ⟨w.heap.size, 3, none⟩ = some (.slice g3 x.pu.length y3) := (blk_cell ho3.box 3).trans rfl; have b4 : w3.cell? ⟨w.heap.size, 4, none⟩ = some (.slice g4 x.he.length y4) := (blk_cell ho3.box 4).trans rfl; have z0 : w3.cell? ⟨w.heap.size + 1, 0, none⟩ = some (Value.int IntKind.i64 0) := (blk_cell hy3 0).trans rfl; have f0 := blk_frozen hy3 0; have z1 : w3.cell? ⟨w.heap.size + 1, 1, none⟩ = some (Value.slice none 0 0) := (blk_cell hy3 1).trans rfl; have f1 := blk_frozen hy3 1; have z2 : w3.cell? ⟨w.heap.size + 1, 2, none⟩ = some (Value.slice none 0 0) := (blk_cell hy3 2).trans rfl; have f2 := blk_frozen hy3 2; have z3 : w3.cell? ⟨w.heap.size + 1, 3, none⟩ = some (Value.slice none 0 0) := (blk_cell hy3 3).trans rfl; have f3 := blk_frozen hy3 3; have z4 : w3.cell? ⟨w.heap.size + 1, 4, none⟩ = some (Value.slice none 0 0) := (blk_cell hy3 4).trans rfl; have f4 := blk_frozen hy3 4; have HO3 := Aside0.mk ho3; have HY3 := Aside0.mk hy3; have HB3 := Aside0.mk (below_step HB.out hb3); clear ho3 hy3 hb3)
    refine bodyPost_ret (results_ct rfl _ _ (w.heap.size + 1) 34 #[.int .i64 x.tm, .slice g1 x.st.length y1, .slice g2 x.si.length y2, .slice g3 x.pu.length y3, .slice g4 x.he.length y4] (0, 0) _ rfl (set5 HY3.out _ _ _ _ _) hu34 rfl (by kernel_rfl)) rfl ?_
    exact give_own HO3.out HY3.out (by omega) HB3.out
end Go.Proofs.Ytejmjeanhlkenaa.HandA
