import Derived.Test.YtejmjeanhlkenaaCL
/- The reference's Wait, walked. -/
namespace Go.Proofs.Ytejmjeanhlkenaa.HandA
open Go.RowKit Go.Proofs.Ytejmjeanhlkenaa.PB Go.Proofs.YtejmjeanhlkenaaW.PrintWords Go.Proofs.YtejmjeanhlkenaaW.PrintLast Go.Proofs.YtejmjeanhlkenaaW.PrintMore
set_option linter.unusedVariables false
set_option linter.unusedSimpArgs false
/-- As waitN, the time as it was. -/
def waitM (l : List S31) (t : Int) (n : Nat) (x : Ln) : Ln := { waitN l t n x with tm := x.tm }
theorem waitM_zero (l : List S31) (t : Int) (x : Ln) : waitM l t 0 x = x := by unfold waitM; rw [waitN_zero]
theorem waitM_miss {l : List S31} {t : Int} {n N : Nat} {x : Ln} (hx : Lens x N) (hn : n < N) (h : rd x.st n ≠ 1 ∨ t < rd x.si n + warn l n) : waitM l t n x = waitM l t (n + 1) x := by unfold waitM; rw [waitN_miss hx hn h]
theorem waitM_hit {l : List S31} {t : Int} {n N : Nat} {x : Ln} (hx : Lens x N) (hn : n < N) (h1 : rd x.st n = 1) (h2 : rd x.si n + warn l n ≤ t) :
    ({ tm := x.tm, st := (waitM l t n x).st.set n 2, si := (waitM l t n x).si.set n (rd x.si n + warn l n), pu := x.pu, he := x.he } : Ln) = waitM l t (n + 1) x := by
  have := waitN_hit hx hn h1 h2
  have e := congrArg (fun y : Ln => ({ y with tm := x.tm } : Ln)) this
  exact e
theorem rlen3 (x : Int) : True := trivial

set_option maxHeartbeats 4000000 in
set_option maxRecDepth 100000 in
theorem rwaitG_calls (l : List S31) (A : Option Addr) (c : Nat) (x : Ln) (a : La) (t : Int) (w : World) (hl : Kd.C k31 w A l.length l) (hc : l.length ≤ c) (hfit : Fit l.length) (hx : LC w a x) (hz : Lz x) :
    Calls Try.prog 46 #[.slice A l.length c, .agg #[.int .i64 x.tm, .slice a.A1 x.st.length a.c1, .slice a.A2 x.si.length a.c2, .slice a.A3 x.pu.length a.c3, .slice a.A4 x.he.length a.c4], .int .i64 t] w (GivesM w (waitG l x t).1 (waitG l x t).2) := by
  have HL := Aside0.mk hl
  have HC := Aside0.mk hc
  have HX := Aside0.mk hx
  have HF := Aside0.mk hfit
  have HZ := Aside0.mk hz
  have hu34 := Try.underlying34
  clear hl hc hfit hx hz
  by_cases hv : vlB l x = true
  · have HE := Aside0.mk hv
    have HV := Aside0.mk (vlB_iff.1 hv)
    by_cases ht : x.tm ≤ t ∧ t ≤ 2147483648
    · have hS : waitG l x t = (waitN l t l.length x, 0) := by unfold waitG; rw [if_neg (by rw [hv]; simp), if_neg (by simpa using ht)]
      rw [hS]
      have T1 : decide (t < x.tm) = false := decide_eq_false (by omega)
      have T2 : decide (2147483648 < t) = false := decide_eq_false (by omega)
      clear hS hv
      have hlen := HV.out.len
      have hN := HV.out.snd.len
      go_enter Try.func46, Try.ntmps46
      go_upto_region 2 with (go_at_call 23; (with_reducible refine (rcopy_calls x a _ (HX.out.below (by repeat (first | exact Below.refl _ _ | apply below_alloc))) HZ.out).mono ?_); rintro e w1 ⟨v1, v2, v3, v4, rfl, hm, hb1⟩; have hbx := blk_below (blk_alloc (blk_new w _) _) hb1; have hby := blk_below (blk2 w _ _) hb1; obtain ⟨g1, n1, y1, rfl⟩ := R_sl hm.r1; obtain ⟨g2, n2, y2, rfl⟩ := R_sl hm.r2; obtain ⟨g3, n3, y3, rfl⟩ := R_sl hm.r3; obtain ⟨g4, n4, y4, rfl⟩ := R_sl hm.r4; have b0 := (blk_cell hbx 0).trans rfl; have b1 := (blk_cell hbx 1).trans rfl; have b2 := (blk_cell hbx 2).trans rfl; have b3 := (blk_cell hbx 3).trans rfl; have b4 := (blk_cell hbx 4).trans rfl; have f0 := blk_frozen hbx 0; have f1 := blk_frozen hbx 1; have f2 := blk_frozen hbx 2; have f3 := blk_frozen hbx 3; have f4 := blk_frozen hbx 4; have HM := Aside0.mk hm; have HBX := Aside0.mk hbx; have HBY := Aside0.mk hby; have HB1 := Aside0.mk hb1; clear hm hbx hby hb1)
      have hO := own_made HM.out HBX.out (base := w.heap.size) (by simp only [World.size_alloc]; omega) (Nat.le_refl _)
      have hb := below_same (below_step (w := w) (by repeat (first | exact Below.refl _ _ | apply below_alloc)) HB1.out) (same5 w1 w.heap.size (.int .i64 x.tm) (.slice g1 n1 y1) (.slice g2 n2 y2) (.slice g3 n3 y3) (.slice g4 n4 y4)) (Nat.le_refl _)
      have hY := blk_same HBY.out (same5 w1 w.heap.size (.int .i64 x.tm) (.slice g1 n1 y1) (.slice g2 n2 y2) (.slice g3 n3 y3) (.slice g4 n4 y4)) (by omega)
      clear b0 b1 b2 b3 b4 f0 f1 f2 f3 f4 HM HBX HBY HB1
      generalize (((((w1.setCell ⟨w.heap.size, 0, none⟩ (.int .i64 x.tm)).setCell ⟨w.heap.size, 1, none⟩ (.slice g1 n1 y1)).setCell ⟨w.heap.size, 2, none⟩ (.slice g2 n2 y2)).setCell ⟨w.heap.size, 3, none⟩ (.slice g3 n3 y3)).setCell ⟨w.heap.size, 4, none⟩ (.slice g4 n4 y4)) = W2 at hO hb hY ⊢
      obtain rfl := hO.len1
      obtain rfl := hO.len2
      obtain rfl := hO.len3
      obtain rfl := hO.len4
      obtain ⟨a1, a2, a3, a4, rfl, rfl, rfl, rfl⟩ := hO.addr hlen (by omega)
      have b0 : W2.cell? ⟨w.heap.size, 0, none⟩ = some (.int .i64 x.tm) := (blk_cell hO.box 0).trans rfl; have b1 : W2.cell? ⟨w.heap.size, 1, none⟩ = some (.slice (some ⟨a1, 0, none⟩) x.st.length y1) := (blk_cell hO.box 1).trans rfl; have b2 : W2.cell? ⟨w.heap.size, 2, none⟩ = some (.slice (some ⟨a2, 0, none⟩) x.si.length y2) := (blk_cell hO.box 2).trans rfl; have b3 : W2.cell? ⟨w.heap.size, 3, none⟩ = some (.slice (some ⟨a3, 0, none⟩) x.pu.length y3) := (blk_cell hO.box 3).trans rfl; have b4 : W2.cell? ⟨w.heap.size, 4, none⟩ = some (.slice (some ⟨a4, 0, none⟩) x.he.length y4) := (blk_cell hO.box 4).trans rfl
      have HO := Aside0.mk hO
      have HB := Aside0.mk hb
      have HY := Aside0.mk hY
      clear hO hb hY hlen
      go_upto_region 6 with (go_at_call 41; (with_reducible refine (rvalid_calls l A c x ⟨(some ⟨a1, 0, none⟩), y1, (some ⟨a2, 0, none⟩), y2, (some ⟨a3, 0, none⟩), y3, (some ⟨a4, 0, none⟩), y4⟩ _ (Kd.C_below HL.out HB.out) HC.out HF.out HO.out.LC).mono ?_); rintro e w3 ⟨rfl, hb3⟩; rw [HE.out]; have ho3 := HO.out.below hb3; have hy3 := blk_below HY.out hb3; have b0 : w3.cell? ⟨w.heap.size, 0, none⟩ = some (.int .i64 x.tm) := (blk_cell ho3.box 0).trans rfl; have b1 : w3.cell? ⟨w.heap.size, 1, none⟩ = some (.slice (some ⟨a1, 0, none⟩) x.st.length y1) := (blk_cell ho3.box 1).trans rfl; have b2 : w3.cell? ⟨w.heap.size, 2, none⟩ = some (.slice (some ⟨a2, 0, none⟩) x.si.length y2) := (blk_cell ho3.box 2).trans rfl; have b3 : w3.cell? ⟨w.heap.size, 3, none⟩ = some (.slice (some ⟨a3, 0, none⟩) x.pu.length y3) := (blk_cell ho3.box 3).trans rfl; have b4 : w3.cell? ⟨w.heap.size, 4, none⟩ = some (.slice (some ⟨a4, 0, none⟩) x.he.length y4) := (blk_cell ho3.box 4).trans rfl; have z0 : w3.cell? ⟨w.heap.size + 1, 0, none⟩ = some (Value.int IntKind.i64 0) := (blk_cell hy3 0).trans rfl; have f0 := blk_frozen hy3 0; have z1 : w3.cell? ⟨w.heap.size + 1, 1, none⟩ = some (Value.slice none 0 0) := (blk_cell hy3 1).trans rfl; have f1 := blk_frozen hy3 1; have z2 : w3.cell? ⟨w.heap.size + 1, 2, none⟩ = some (Value.slice none 0 0) := (blk_cell hy3 2).trans rfl; have f2 := blk_frozen hy3 2; have z3 : w3.cell? ⟨w.heap.size + 1, 3, none⟩ = some (Value.slice none 0 0) := (blk_cell hy3 3).trans rfl; have f3 := blk_frozen hy3 3; have z4 : w3.cell? ⟨w.heap.size + 1, 4, none⟩ = some (Value.slice none 0 0) := (blk_cell hy3 4).trans rfl; have f4 := blk_frozen hy3 4; have HO3 := Aside0.mk ho3; have HY3 := Aside0.mk hy3; have HB3 := Aside0.mk (below_step HB.out hb3); clear ho3 hy3 hb3)
      go_wp2_with fail
      go_loopg [8] l.length (fun m v8 w' => ∃ n : Nat, v8 = .int .i64 n ∧ n + m = l.length ∧ Aside0 (Own w' w.heap.size w.heap.size (.slice (some ⟨a1, 0, none⟩) x.st.length y1) (.slice (some ⟨a2, 0, none⟩) x.si.length y2) (.slice (some ⟨a3, 0, none⟩) x.pu.length y3) (.slice (some ⟨a4, 0, none⟩) x.he.length y4) (waitM l t n x)) ∧ Aside0 (w'.heap[w.heap.size + 1]? = some (.cells #[Value.int IntKind.i64 0, Value.slice none 0 0, Value.slice none 0 0, Value.slice none 0 0, Value.slice none 0 0] 34 (0, 0))) ∧ Aside0 (Below w.heap.size w w'))
      case atStart => exact ⟨0, rfl, by omega, ⟨by rw [waitM_zero]; exact HO3.out⟩, HY3, HB3⟩
      case round =>
        clear b0 b1 b2 b3 b4 z0 z1 z2 z3 z4 f0 f1 f2 f3 f4 HO3 HY3 HB3 HO HY HB
        obtain ⟨n, rfl, hm, hO, hY, hBw⟩ := hrel
        obtain ⟨hne, _, n1, n2, _, _, p1, p2, _, _, ⟨cs1, hc1⟩, ⟨cs2, hc2⟩, _, _⟩ := hO.out.facts
        have m1 : a1 ≠ w.heap.size + 1 := blk_ne hc1 hY.out (by decide)
        have m2 : a2 ≠ w.heap.size + 1 := blk_ne hc2 hY.out (by decide)
        have HC1 := Aside0.mk hc1
        have HC2 := Aside0.mk hc2
        clear hc1 hc2
        have k0 : wr.cell? ⟨w.heap.size, 0, none⟩ = some (.int .i64 x.tm) := (blk_cell hO.out.box 0).trans rfl
        have k1 : wr.cell? ⟨w.heap.size, 1, none⟩ = some (.slice (some ⟨a1, 0, none⟩) x.st.length y1) := (blk_cell hO.out.box 1).trans rfl
        have k2 : wr.cell? ⟨w.heap.size, 2, none⟩ = some (.slice (some ⟨a2, 0, none⟩) x.si.length y2) := (blk_cell hO.out.box 2).trans rfl
        have k3 : wr.cell? ⟨w.heap.size, 3, none⟩ = some (.slice (some ⟨a3, 0, none⟩) x.pu.length y3) := (blk_cell hO.out.box 3).trans rfl
        have k4 : wr.cell? ⟨w.heap.size, 4, none⟩ = some (.slice (some ⟨a4, 0, none⟩) x.he.length y4) := (blk_cell hO.out.box 4).trans rfl
        have e1 := HV.out.len.e1; have e2 := HV.out.len.e2
        by_cases hn : n < l.length
        · obtain ⟨E1, F1⟩ := hO.out.cell1 (n : Int) (by omega) (by omega)
          obtain ⟨E2, F2⟩ := hO.out.cell2 (n : Int) (by omega) (by omega)
          have t1 : (n : Int) < (x.st.length : Int) := by omega
          have t2 : (n : Int) < (x.si.length : Int) := by omega
          clear e1 e2
          have er : rd (waitM l t n x).st (n : Int) = rd x.st n := rd_waitSt l t n x.st x.si
          have er2 : rd (waitM l t n x).si (n : Int) = rd x.si n := rd_waitSi l t n x.st x.si
          rw [er] at E1
          rw [er2] at E2
          clear er er2
          simp only [Int.toNat_natCast] at E1 F1 E2 F2
          obtain ⟨m, rfl⟩ : ∃ q, gk = q + 1 := ⟨gk - 1, by omega⟩
          obtain ⟨ad, e', d0, d1⟩ := at_T31 HL.out (n : Int) (by omega) (by omega)
          cases e'
          have D1 : wr.cell? ⟨(ad.add (n * 2)).block, (ad.add (n * 2)).off + 1, none⟩ = some (.int .i64 (warn l n)) := pw_cell_below hBw.out (by have d2 := d1; simp only [Int.toNat_natCast] at d2; exact d2)
          have dl := World.block_lt_of_cell? w _ d1
          simp only [Int.toNat_natCast] at dl
          have q1 : a1 ≠ (ad.add (n * 2)).block := by omega
          have q2 : a2 ≠ (ad.add (n * 2)).block := by omega
          clear d0 d1 dl
          have hw := HV.out.snd.wn (n : Int) (by omega) (by omega)
          have hsi := vl_si HV.out n hn
          have sum : IntKind.i64.wrap (rd x.si n + warn l n) = rd x.si n + warn l n := IntWalk.i64_in _ (by omega)
          have sum0 : 0 ≤ rd x.si n + warn l n := by omega
          have hcl : (n : Int) < l.length := by omega
          by_cases h1 : rd x.st n = 1
          · have h1b : (rd x.st n == 1) = true := by simp [h1]
            have H1 := Aside0.mk h1
            clear h1
            by_cases h2 : rd x.si n + warn l n ≤ t
            · have H2 := Aside0.mk h2
              have h2b : decide (rd x.si n + warn l n ≤ t) = true := decide_eq_true h2
              clear h2
              go_wp2_with fail
              go_quiet (fail)
              go_wp2_with fail
              refine start_ (n := 21) (S := (fun w' => w'.cell? ⟨w.heap.size, 1, none⟩ = some (.slice (some ⟨a1, 0, none⟩) x.st.length y1) ∧ w'.cell? ⟨w.heap.size, 2, none⟩ = some (.slice (some ⟨a2, 0, none⟩) x.si.length y2) ∧ w'.cell? ⟨a2, n, none⟩ = some (.int .i64 (rd x.si n)) ∧ w'.cell? ⟨(ad.add (n * 2)).block, (ad.add (n * 2)).off + 1, none⟩ = some (.int .i64 (warn l n)))) (ds := [20]) #[false, false, false, false, false, false, false, false, false, false, false, false, false, false, false, false, false, false, false, false, false] (by kernel_rfl) rfl rfl ⟨k1, k2, E2, D1⟩ (fun hHeld => ?_)
              refine pure_ (i := 0) (N := some 52) (v := ?_) (a' := ?_) #[true, false, false, false, false, false, false, false, false, false, false, false, false, false, false, false, false, false, false, false, false] rfl rfl (by kernel_rfl) (fun _ _ _ h => h) (Or.inl ⟨by rfl, ?_⟩) ?_ ?_
              rotate_left; · intro w'; go_simp; with_reducible rfl
              rotate_left; · simp only [Act.put, List.setIfInBounds_toArray, List.set_cons_zero, List.set_cons_succ, i64_w, i32_w]; rfl
              refine pure_ (i := 2) (N := some 54) (v := ?_) (a' := ?_) #[true, false, true, false, false, false, false, false, false, false, false, false, false, false, false, false, false, false, false, false, false] rfl rfl (by kernel_rfl) (fun _ _ _ h => h) (Or.inl ⟨by rfl, ?_⟩) ?_ ?_
              rotate_left; · intro w'; go_simp; with_reducible rfl
              rotate_left; · simp only [Act.put, List.setIfInBounds_toArray, List.set_cons_zero, List.set_cons_succ, i64_w, i32_w]; rfl
              refine pure_ (i := 3) (N := some 55) (v := ?_) (a' := ?_) #[true, false, true, true, false, false, false, false, false, false, false, false, false, false, false, false, false, false, false, false, false] rfl rfl (by kernel_rfl) (fun _ _ _ h => h) (Or.inl ⟨by rfl, ?_⟩) ?_ ?_
              rotate_left; · intro w'; go_simp; with_reducible rfl
              rotate_left; · simp only [Act.put, List.setIfInBounds_toArray, List.set_cons_zero, List.set_cons_succ, i64_w, i32_w]; rfl
              refine pure_ (i := 5) (N := some 57) (v := ?_) (a' := ?_) #[true, false, true, true, false, true, false, false, false, false, false, false, false, false, false, false, false, false, false, false, false] rfl rfl (by kernel_rfl) (fun _ _ _ h => h) (Or.inl ⟨by rfl, ?_⟩) ?_ ?_
              rotate_left; · intro w'; go_simp; with_reducible rfl
              rotate_left; · simp only [Act.put, List.setIfInBounds_toArray, List.set_cons_zero, List.set_cons_succ, i64_w, i32_w]; rfl
              refine pure_ (i := 6) (N := some 58) (v := ?_) (a' := ?_) #[true, false, true, true, false, true, true, false, false, false, false, false, false, false, false, false, false, false, false, false, false] rfl rfl (by kernel_rfl) (fun _ _ _ h => h) (Or.inl ⟨by rfl, ?_⟩) ?_ ?_
              rotate_left; · intro w'; go_simp; with_reducible rfl
              rotate_left; · simp only [Act.put, List.setIfInBounds_toArray, List.set_cons_zero, List.set_cons_succ, i64_w, i32_w]; rfl
              refine pure_ (i := 8) (N := some 60) (v := ?_) (a' := ?_) #[true, false, true, true, false, true, true, false, true, false, false, false, false, false, false, false, false, false, false, false, false] rfl rfl (by kernel_rfl) (fun _ _ _ h => h) (Or.inl ⟨by rfl, ?_⟩) ?_ ?_
              rotate_left; · intro w'; go_simp; with_reducible rfl
              rotate_left; · simp only [Act.put, List.setIfInBounds_toArray, List.set_cons_zero, List.set_cons_succ, i64_w, i32_w]; rfl
              refine pure_ (i := 11) (N := some 63) (v := ?_) (a' := ?_) #[true, false, true, true, false, true, true, false, true, false, false, true, false, false, false, false, false, false, false, false, false] rfl rfl (by kernel_rfl) (fun _ _ _ h => h) (Or.inl ⟨by rfl, ?_⟩) ?_ ?_
              rotate_left; · intro w'; go_simp; with_reducible rfl
              rotate_left; · simp only [Act.put, List.setIfInBounds_toArray, List.set_cons_zero, List.set_cons_succ, i64_w, i32_w]; rfl
              refine pure_ (i := 12) (N := some 64) (v := ?_) (a' := ?_) #[true, false, true, true, false, true, true, false, true, false, false, true, true, false, false, false, false, false, false, false, false] rfl rfl (by kernel_rfl) (fun _ _ _ h => h) (Or.inl ⟨by rfl, ?_⟩) ?_ ?_
              rotate_left; · intro w'; go_simp; with_reducible rfl
              rotate_left; · simp only [Act.put, List.setIfInBounds_toArray, List.set_cons_zero, List.set_cons_succ, i64_w, i32_w]; rfl
              refine pure_ (i := 13) (N := some 65) (v := ?_) (a' := ?_) #[true, false, true, true, false, true, true, false, true, false, false, true, true, true, false, false, false, false, false, false, false] rfl rfl (by kernel_rfl) (fun _ _ _ h => h) (Or.inl ⟨by rfl, ?_⟩) ?_ ?_
              rotate_left; · intro w'; go_simp; with_reducible rfl
              rotate_left; · simp only [Act.put, List.setIfInBounds_toArray, List.set_cons_zero, List.set_cons_succ, i64_w, i32_w]; rfl
              refine pure_ (i := 14) (N := some 66) (v := ?_) (a' := ?_) #[true, false, true, true, false, true, true, false, true, false, false, true, true, true, true, false, false, false, false, false, false] rfl rfl (by kernel_rfl) (fun _ _ _ h => h) (Or.inl ⟨by rfl, ?_⟩) ?_ ?_
              rotate_left; · intro w'; go_simp; with_reducible rfl
              rotate_left; · simp only [Act.put, List.setIfInBounds_toArray, List.set_cons_zero, List.set_cons_succ, i64_w, i32_w]; rfl
              refine take_ (i := 1) (N := some 53) (v := ?_) (a' := ?_) #[true, true, true, true, false, true, true, false, true, false, false, true, true, true, true, false, false, false, false, false, false] rfl rfl (by kernel_rfl) (fun _ _ _ h => h) (Or.inl ⟨by rfl, ?_⟩) hHeld ?_ ?_
              rotate_left; · rintro w' ⟨s0, s1, s2, s3⟩; go_simp; with_reducible rfl
              rotate_left; · simp only [Act.put, List.setIfInBounds_toArray, List.set_cons_zero, List.set_cons_succ, i64_w, i32_w]; rfl
              refine take_ (i := 4) (N := some 56) (v := ?_) (a' := ?_) #[true, true, true, true, true, true, true, false, true, false, false, true, true, true, true, false, false, false, false, false, false] rfl rfl (by kernel_rfl) (fun _ _ _ h => h) (Or.inl ⟨by rfl, ?_⟩) hHeld ?_ ?_
              rotate_left; · rintro w' ⟨s0, s1, s2, s3⟩; go_simp; with_reducible rfl
              rotate_left; · simp only [Act.put, List.setIfInBounds_toArray, List.set_cons_zero, List.set_cons_succ, i64_w, i32_w]; rfl
              refine take_ (i := 7) (N := some 59) (v := ?_) (a' := ?_) #[true, true, true, true, true, true, true, true, true, false, false, true, true, true, true, false, false, false, false, false, false] rfl rfl (by kernel_rfl) (fun _ _ _ h => h) (Or.inl ⟨by rfl, ?_⟩) hHeld ?_ ?_
              rotate_left; · rintro w' ⟨s0, s1, s2, s3⟩; go_simp; with_reducible rfl
              rotate_left; · simp only [Act.put, List.setIfInBounds_toArray, List.set_cons_zero, List.set_cons_succ, i64_w, i32_w]; rfl
              refine pure_ (i := 9) (N := some 61) (v := ?_) (a' := ?_) #[true, true, true, true, true, true, true, true, true, true, false, true, true, true, true, false, false, false, false, false, false] rfl rfl (by kernel_rfl) (fun _ _ _ h => h) (Or.inl ⟨by rfl, ?_⟩) ?_ ?_
              rotate_left; · intro w'; go_simp; with_reducible rfl
              rotate_left; · simp only [Act.put, List.setIfInBounds_toArray, List.set_cons_zero, List.set_cons_succ, i64_w, i32_w]; rfl
              refine take_ (i := 10) (N := some 62) (v := ?_) (a' := ?_) #[true, true, true, true, true, true, true, true, true, true, true, true, true, true, true, false, false, false, false, false, false] rfl rfl (by kernel_rfl) (fun _ _ _ h => h) (Or.inl ⟨by rfl, ?_⟩) hHeld ?_ ?_
              rotate_left; · rintro w' ⟨s0, s1, s2, s3⟩; go_simp; with_reducible rfl
              rotate_left; · simp only [Act.put, List.setIfInBounds_toArray, List.set_cons_zero, List.set_cons_succ, i64_w, i32_w]; rfl
              refine take_ (i := 15) (N := some 67) (v := ?_) (a' := ?_) #[true, true, true, true, true, true, true, true, true, true, true, true, true, true, true, true, false, false, false, false, false] rfl rfl (by kernel_rfl) (fun _ _ _ h => h) (Or.inl ⟨by rfl, ?_⟩) hHeld ?_ ?_
              rotate_left; · rintro w' ⟨s0, s1, s2, s3⟩; go_simp; with_reducible rfl
              rotate_left; · simp only [Act.put, List.setIfInBounds_toArray, List.set_cons_zero, List.set_cons_succ, i64_w, i32_w]; rfl
              refine pure_ (i := 16) (N := some 68) (v := ?_) (a' := ?_) #[true, true, true, true, true, true, true, true, true, true, true, true, true, true, true, true, true, false, false, false, false] rfl rfl (by kernel_rfl) (fun _ _ _ h => h) (Or.inl ⟨by rfl, ?_⟩) ?_ ?_
              rotate_left; · intro w'; go_simp; with_reducible rfl
              rotate_left; · simp only [Act.put, List.setIfInBounds_toArray, List.set_cons_zero, List.set_cons_succ, i64_w, i32_w]; rfl
              refine pure_ (i := 17) (N := some 69) (v := ?_) (a' := ?_) #[true, true, true, true, true, true, true, true, true, true, true, true, true, true, true, true, true, true, false, false, false] rfl rfl (by kernel_rfl) (fun _ _ _ h => h) (Or.inl ⟨by rfl, ?_⟩) ?_ ?_
              rotate_left; · intro w'; go_simp; with_reducible rfl
              rotate_left; · simp only [Act.put, List.setIfInBounds_toArray, List.set_cons_zero, List.set_cons_succ, i64_w, i32_w]; rfl
              refine one_ (i := 18) (N := none) #[true, true, true, true, true, true, true, true, true, true, true, true, true, true, true, true, true, true, true, false, false] rfl rfl (by kernel_rfl) (by decide) (fun K hK => ?_)
              refine skip_ (w1 := ?_) (by rfl) rfl ?_ ?_
              rotate_left
              · go_simp; rfl
              refine hK.out _ _ ⟨(cell_far (p := ⟨a1, n, none⟩) (Ne.symm n1) _).trans hHeld.1, (cell_far (p := ⟨a1, n, none⟩) (Ne.symm n1) _).trans hHeld.2.1, (cell_far (p := ⟨a1, n, none⟩) (Ne.symm hne) _).trans hHeld.2.2.1, (cell_far (a := ⟨(ad.add (n * 2)).block, (ad.add (n * 2)).off + 1, none⟩) (p := ⟨a1, n, none⟩) (Ne.symm q1) _).trans hHeld.2.2.2⟩ (fun hHeld => ?_)
              clear hK K
              refine pure_ (i := 19) (N := some 70) (v := ?_) (a' := ?_) #[true, true, true, true, true, true, true, true, true, true, true, true, true, true, true, true, true, true, true, true, false] rfl rfl (by kernel_rfl) (fun _ _ _ h => h) (Or.inl ⟨by rfl, ?_⟩) ?_ ?_
              rotate_left; · intro w'; go_simp; with_reducible rfl
              rotate_left; · simp only [Act.put, List.setIfInBounds_toArray, List.set_cons_zero, List.set_cons_succ, i64_w, i32_w]; rfl
              refine last_ (i := 20) (N := none) #[true, true, true, true, true, true, true, true, true, true, true, true, true, true, true, true, true, true, true, true, true] rfl rfl (by kernel_rfl) (by decide) (fun K hK => ?_)
              refine skip_ (w1 := ?_) (by rfl) rfl ?_ ?_
              rotate_left
              · go_simp; rfl
              refine hK.out _ _ ?_
              clear hK K hHeld
              refine done_ (by kernel_rfl) ?_
              go_wp2_with fail
              go_roundg m
              case measure => omega
              case rel =>
                have hO2 := hO.out.drewN (nq + 1)
                have o1 := hO2.setSt hO2.len1 n1 (blk_drewN HC1.out (nq + 1)) (n : Int) 2
                have e1 := o1.setSi o1.len2 n2 (blk_far (blk_drewN HC2.out (nq + 1)) (Ne.symm hne) _) (n : Int) (rd x.si n + warn l n)
                simp only [Int.toNat_natCast] at e1
                have e2 := waitM_hit HV.out.len hn H1.out H2.out
                have e3 := e2 ▸ e1
                exact ⟨n + 1, by go_num, by omega, ⟨e3⟩, ⟨blk_far (p := ⟨a2, n, none⟩) (blk_far (p := ⟨a1, n, none⟩) (blk_drewN hY.out (nq + 1)) (Ne.symm m1) _) (Ne.symm m2) _⟩, ⟨below_set (below_set (pw_below_drewN hBw.out (nq + 1)) p1) p2⟩⟩
            · have H2 := Aside0.mk h2
              have h2b : decide (rd x.si n + warn l n ≤ t) = false := decide_eq_false h2
              clear h2
              go_wp2_with fail
              go_quiet (fail)
              go_wp2_with fail
              go_roundg m
              case measure => omega
              case rel => exact ⟨n + 1, by go_num, by omega, ⟨by rw [← waitM_miss HV.out.len hn (.inr (by have := H2.out; omega))]; exact hO.out.drewN _⟩, ⟨blk_drewN hY.out _⟩, ⟨pw_below_drewN hBw.out _⟩⟩
          · have h1b : (rd x.st n == 1) = false := by simp [h1]
            have H1 := Aside0.mk h1
            clear h1
            go_wp2_with fail
            go_quiet (fail)
            go_wp2_with fail
            go_roundg m
            case measure => omega
            case rel => exact ⟨n + 1, by go_num, by omega, ⟨by rw [← waitM_miss HV.out.len hn (.inl H1.out)]; exact hO.out.drewN _⟩, ⟨blk_drewN hY.out _⟩, ⟨pw_below_drewN hBw.out _⟩⟩
        · obtain rfl : n = l.length := by omega
          have z0 : wr.cell? ⟨w.heap.size + 1, 0, none⟩ = some (Value.int IntKind.i64 0) := (blk_cell hY.out 0).trans rfl
          have f0 := blk_frozen hY.out 0
          have z1 : wr.cell? ⟨w.heap.size + 1, 1, none⟩ = some (Value.slice none 0 0) := (blk_cell hY.out 1).trans rfl
          have f1 := blk_frozen hY.out 1
          have z2 : wr.cell? ⟨w.heap.size + 1, 2, none⟩ = some (Value.slice none 0 0) := (blk_cell hY.out 2).trans rfl
          have f2 := blk_frozen hY.out 2
          have z3 : wr.cell? ⟨w.heap.size + 1, 3, none⟩ = some (Value.slice none 0 0) := (blk_cell hY.out 3).trans rfl
          have f3 := blk_frozen hY.out 3
          have z4 : wr.cell? ⟨w.heap.size + 1, 4, none⟩ = some (Value.slice none 0 0) := (blk_cell hY.out 4).trans rfl
          have f4 := blk_frozen hY.out 4
          have f9 := blk_frozen hO.out.box 0
          clear e1 e2
          go_wp2_with fail
          have o2 := hO.out.setTm t
          have SB := (Same.refl wr w.heap.size).set 0 (.int .i64 t)
          have hy2 := blk_same hY.out SB (by omega)
          have bl := below_same hBw.out SB (Nat.le_refl _)
          refine bodyPost_ret (results_ct rfl _ _ (w.heap.size + 1) 34 #[.int .i64 t, .slice (some ⟨a1, 0, none⟩) x.st.length y1, .slice (some ⟨a2, 0, none⟩) x.si.length y2, .slice (some ⟨a3, 0, none⟩) x.pu.length y3, .slice (some ⟨a4, 0, none⟩) x.he.length y4] (0, 0) _ rfl (set5 hy2 _ _ _ _ _) hu34 rfl (by kernel_rfl)) rfl ?_
          exact give_own (y := waitN l t l.length x) o2 hy2 (by omega) bl
    · have hS : waitG l x t = (x, 8) := by unfold waitG; rw [if_neg (by rw [hv]; simp), if_pos ht]
      by_cases T0 : t < x.tm
      · have T1 : decide (t < x.tm) = true := decide_eq_true T0
        rw [hS]
        clear hS hv
        go_enter Try.func46, Try.ntmps46
        go_upto_region 2 with (go_at_call 23; (with_reducible refine (rcopy_calls x a _ (HX.out.below (by repeat (first | exact Below.refl _ _ | apply below_alloc))) HZ.out).mono ?_); rintro e w1 ⟨v1, v2, v3, v4, rfl, hm, hb1⟩; have hbx := blk_below (blk_alloc (blk_new w _) _) hb1; have hby := blk_below (blk2 w _ _) hb1; obtain ⟨g1, n1, y1, rfl⟩ := R_sl hm.r1; obtain ⟨g2, n2, y2, rfl⟩ := R_sl hm.r2; obtain ⟨g3, n3, y3, rfl⟩ := R_sl hm.r3; obtain ⟨g4, n4, y4, rfl⟩ := R_sl hm.r4; have b0 := (blk_cell hbx 0).trans rfl; have b1 := (blk_cell hbx 1).trans rfl; have b2 := (blk_cell hbx 2).trans rfl; have b3 := (blk_cell hbx 3).trans rfl; have b4 := (blk_cell hbx 4).trans rfl; have f0 := blk_frozen hbx 0; have f1 := blk_frozen hbx 1; have f2 := blk_frozen hbx 2; have f3 := blk_frozen hbx 3; have f4 := blk_frozen hbx 4; have HM := Aside0.mk hm; have HBX := Aside0.mk hbx; have HBY := Aside0.mk hby; have HB1 := Aside0.mk hb1; clear hm hbx hby hb1)
        have hO := own_made HM.out HBX.out (base := w.heap.size) (by simp only [World.size_alloc]; omega) (Nat.le_refl _)
        have hb := below_same (below_step (w := w) (by repeat (first | exact Below.refl _ _ | apply below_alloc)) HB1.out) (same5 w1 w.heap.size (.int .i64 x.tm) (.slice g1 n1 y1) (.slice g2 n2 y2) (.slice g3 n3 y3) (.slice g4 n4 y4)) (Nat.le_refl _)
        have hY := blk_same HBY.out (same5 w1 w.heap.size (.int .i64 x.tm) (.slice g1 n1 y1) (.slice g2 n2 y2) (.slice g3 n3 y3) (.slice g4 n4 y4)) (by omega)
        clear b0 b1 b2 b3 b4 f0 f1 f2 f3 f4 HM HBX HBY HB1
        generalize (((((w1.setCell ⟨w.heap.size, 0, none⟩ (.int .i64 x.tm)).setCell ⟨w.heap.size, 1, none⟩ (.slice g1 n1 y1)).setCell ⟨w.heap.size, 2, none⟩ (.slice g2 n2 y2)).setCell ⟨w.heap.size, 3, none⟩ (.slice g3 n3 y3)).setCell ⟨w.heap.size, 4, none⟩ (.slice g4 n4 y4)) = W2 at hO hb hY ⊢
        obtain rfl := hO.len1
        obtain rfl := hO.len2
        obtain rfl := hO.len3
        obtain rfl := hO.len4
        have b0 : W2.cell? ⟨w.heap.size, 0, none⟩ = some (.int .i64 x.tm) := (blk_cell hO.box 0).trans rfl; have b1 : W2.cell? ⟨w.heap.size, 1, none⟩ = some (.slice g1 x.st.length y1) := (blk_cell hO.box 1).trans rfl; have b2 : W2.cell? ⟨w.heap.size, 2, none⟩ = some (.slice g2 x.si.length y2) := (blk_cell hO.box 2).trans rfl; have b3 : W2.cell? ⟨w.heap.size, 3, none⟩ = some (.slice g3 x.pu.length y3) := (blk_cell hO.box 3).trans rfl; have b4 : W2.cell? ⟨w.heap.size, 4, none⟩ = some (.slice g4 x.he.length y4) := (blk_cell hO.box 4).trans rfl
        have HO := Aside0.mk hO
        have HB := Aside0.mk hb
        have HY := Aside0.mk hY
        clear hO hb hY
        go_wp2_with (go_at_call 41; (with_reducible refine (rvalid_calls l A c x ⟨g1, y1, g2, y2, g3, y3, g4, y4⟩ _ (Kd.C_below HL.out HB.out) HC.out HF.out HO.out.LC).mono ?_); rintro e w3 ⟨rfl, hb3⟩; rw [HE.out]; have ho3 := HO.out.below hb3; have hy3 := blk_below HY.out hb3; have b0 : w3.cell? ⟨w.heap.size, 0, none⟩ = some (.int .i64 x.tm) := (blk_cell ho3.box 0).trans rfl; have b1 : w3.cell? ⟨w.heap.size, 1, none⟩ = some (.slice g1 x.st.length y1) := (blk_cell ho3.box 1).trans rfl; have b2 : w3.cell? ⟨w.heap.size, 2, none⟩ = some (.slice g2 x.si.length y2) := (blk_cell ho3.box 2).trans rfl; have b3 : w3.cell? ⟨w.heap.size, 3, none⟩ = some (.slice g3 x.pu.length y3) := (blk_cell ho3.box 3).trans rfl; have b4 : w3.cell? ⟨w.heap.size, 4, none⟩ = some (.slice g4 x.he.length y4) := (blk_cell ho3.box 4).trans rfl; have z0 : w3.cell? ⟨w.heap.size + 1, 0, none⟩ = some (Value.int IntKind.i64 0) := (blk_cell hy3 0).trans rfl; have f0 := blk_frozen hy3 0; have z1 : w3.cell? ⟨w.heap.size + 1, 1, none⟩ = some (Value.slice none 0 0) := (blk_cell hy3 1).trans rfl; have f1 := blk_frozen hy3 1; have z2 : w3.cell? ⟨w.heap.size + 1, 2, none⟩ = some (Value.slice none 0 0) := (blk_cell hy3 2).trans rfl; have f2 := blk_frozen hy3 2; have z3 : w3.cell? ⟨w.heap.size + 1, 3, none⟩ = some (Value.slice none 0 0) := (blk_cell hy3 3).trans rfl; have f3 := blk_frozen hy3 3; have z4 : w3.cell? ⟨w.heap.size + 1, 4, none⟩ = some (Value.slice none 0 0) := (blk_cell hy3 4).trans rfl; have f4 := blk_frozen hy3 4; have HO3 := Aside0.mk ho3; have HY3 := Aside0.mk hy3; have HB3 := Aside0.mk (below_step HB.out hb3); clear ho3 hy3 hb3)
        refine bodyPost_ret (results_ct rfl _ _ (w.heap.size + 1) 34 #[.int .i64 x.tm, .slice g1 x.st.length y1, .slice g2 x.si.length y2, .slice g3 x.pu.length y3, .slice g4 x.he.length y4] (0, 0) _ rfl (set5 HY3.out _ _ _ _ _) hu34 rfl (by kernel_rfl)) rfl ?_
        exact give_own HO3.out HY3.out (by omega) HB3.out
      · have T1 : decide (t < x.tm) = false := decide_eq_false T0
        have T2 : decide (2147483648 < t) = true := decide_eq_true (by omega)
        rw [hS]
        clear hS hv
        go_enter Try.func46, Try.ntmps46
        go_upto_region 2 with (go_at_call 23; (with_reducible refine (rcopy_calls x a _ (HX.out.below (by repeat (first | exact Below.refl _ _ | apply below_alloc))) HZ.out).mono ?_); rintro e w1 ⟨v1, v2, v3, v4, rfl, hm, hb1⟩; have hbx := blk_below (blk_alloc (blk_new w _) _) hb1; have hby := blk_below (blk2 w _ _) hb1; obtain ⟨g1, n1, y1, rfl⟩ := R_sl hm.r1; obtain ⟨g2, n2, y2, rfl⟩ := R_sl hm.r2; obtain ⟨g3, n3, y3, rfl⟩ := R_sl hm.r3; obtain ⟨g4, n4, y4, rfl⟩ := R_sl hm.r4; have b0 := (blk_cell hbx 0).trans rfl; have b1 := (blk_cell hbx 1).trans rfl; have b2 := (blk_cell hbx 2).trans rfl; have b3 := (blk_cell hbx 3).trans rfl; have b4 := (blk_cell hbx 4).trans rfl; have f0 := blk_frozen hbx 0; have f1 := blk_frozen hbx 1; have f2 := blk_frozen hbx 2; have f3 := blk_frozen hbx 3; have f4 := blk_frozen hbx 4; have HM := Aside0.mk hm; have HBX := Aside0.mk hbx; have HBY := Aside0.mk hby; have HB1 := Aside0.mk hb1; clear hm hbx hby hb1)
        have hO := own_made HM.out HBX.out (base := w.heap.size) (by simp only [World.size_alloc]; omega) (Nat.le_refl _)
        have hb := below_same (below_step (w := w) (by repeat (first | exact Below.refl _ _ | apply below_alloc)) HB1.out) (same5 w1 w.heap.size (.int .i64 x.tm) (.slice g1 n1 y1) (.slice g2 n2 y2) (.slice g3 n3 y3) (.slice g4 n4 y4)) (Nat.le_refl _)
        have hY := blk_same HBY.out (same5 w1 w.heap.size (.int .i64 x.tm) (.slice g1 n1 y1) (.slice g2 n2 y2) (.slice g3 n3 y3) (.slice g4 n4 y4)) (by omega)
        clear b0 b1 b2 b3 b4 f0 f1 f2 f3 f4 HM HBX HBY HB1
        generalize (((((w1.setCell ⟨w.heap.size, 0, none⟩ (.int .i64 x.tm)).setCell ⟨w.heap.size, 1, none⟩ (.slice g1 n1 y1)).setCell ⟨w.heap.size, 2, none⟩ (.slice g2 n2 y2)).setCell ⟨w.heap.size, 3, none⟩ (.slice g3 n3 y3)).setCell ⟨w.heap.size, 4, none⟩ (.slice g4 n4 y4)) = W2 at hO hb hY ⊢
        obtain rfl := hO.len1
        obtain rfl := hO.len2
        obtain rfl := hO.len3
        obtain rfl := hO.len4
        have b0 : W2.cell? ⟨w.heap.size, 0, none⟩ = some (.int .i64 x.tm) := (blk_cell hO.box 0).trans rfl; have b1 : W2.cell? ⟨w.heap.size, 1, none⟩ = some (.slice g1 x.st.length y1) := (blk_cell hO.box 1).trans rfl; have b2 : W2.cell? ⟨w.heap.size, 2, none⟩ = some (.slice g2 x.si.length y2) := (blk_cell hO.box 2).trans rfl; have b3 : W2.cell? ⟨w.heap.size, 3, none⟩ = some (.slice g3 x.pu.length y3) := (blk_cell hO.box 3).trans rfl; have b4 : W2.cell? ⟨w.heap.size, 4, none⟩ = some (.slice g4 x.he.length y4) := (blk_cell hO.box 4).trans rfl
        have HO := Aside0.mk hO
        have HB := Aside0.mk hb
        have HY := Aside0.mk hY
        clear hO hb hY
        go_wp2_with (go_at_call 41; (with_reducible refine (rvalid_calls l A c x ⟨g1, y1, g2, y2, g3, y3, g4, y4⟩ _ (Kd.C_below HL.out HB.out) HC.out HF.out HO.out.LC).mono ?_); rintro e w3 ⟨rfl, hb3⟩; rw [HE.out]; have ho3 := HO.out.below hb3; have hy3 := blk_below HY.out hb3; have b0 : w3.cell? ⟨w.heap.size, 0, none⟩ = some (.int .i64 x.tm) := (blk_cell ho3.box 0).trans rfl; have b1 : w3.cell? ⟨w.heap.size, 1, none⟩ = some (.slice g1 x.st.length y1) := (blk_cell ho3.box 1).trans rfl; have b2 : w3.cell? ⟨w.heap.size, 2, none⟩ = some (.slice g2 x.si.length y2) := (blk_cell ho3.box 2).trans rfl; have b3 : w3.cell? ⟨w.heap.size, 3, none⟩ = some (.slice g3 x.pu.length y3) := (blk_cell ho3.box 3).trans rfl; have b4 : w3.cell? ⟨w.heap.size, 4, none⟩ = some (.slice g4 x.he.length y4) := (blk_cell ho3.box 4).trans rfl; have z0 : w3.cell? ⟨w.heap.size + 1, 0, none⟩ = some (Value.int IntKind.i64 0) := (blk_cell hy3 0).trans rfl; have f0 := blk_frozen hy3 0; have z1 : w3.cell? ⟨w.heap.size + 1, 1, none⟩ = some (Value.slice none 0 0) := (blk_cell hy3 1).trans rfl; have f1 := blk_frozen hy3 1; have z2 : w3.cell? ⟨w.heap.size + 1, 2, none⟩ = some (Value.slice none 0 0) := (blk_cell hy3 2).trans rfl; have f2 := blk_frozen hy3 2; have z3 : w3.cell? ⟨w.heap.size + 1, 3, none⟩ = some (Value.slice none 0 0) := (blk_cell hy3 3).trans rfl; have f3 := blk_frozen hy3 3; have z4 : w3.cell? ⟨w.heap.size + 1, 4, none⟩ = some (Value.slice none 0 0) := (blk_cell hy3 4).trans rfl; have f4 := blk_frozen hy3 4; have HO3 := Aside0.mk ho3; have HY3 := Aside0.mk hy3; have HB3 := Aside0.mk (below_step HB.out hb3); clear ho3 hy3 hb3)
        refine bodyPost_ret (results_ct rfl _ _ (w.heap.size + 1) 34 #[.int .i64 x.tm, .slice g1 x.st.length y1, .slice g2 x.si.length y2, .slice g3 x.pu.length y3, .slice g4 x.he.length y4] (0, 0) _ rfl (set5 HY3.out _ _ _ _ _) hu34 rfl (by kernel_rfl)) rfl ?_
        exact give_own HO3.out HY3.out (by omega) HB3.out
  · have hv := Bool.eq_false_iff.2 hv
    have HE := Aside0.mk hv
    have hS : waitG l x t = (x, 6) := by unfold waitG; rw [if_pos hv]
    rw [hS]
    clear hS hv
    go_enter Try.func46, Try.ntmps46
    go_upto_region 2 with (go_at_call 23; (with_reducible refine (rcopy_calls x a _ (HX.out.below (by repeat (first | exact Below.refl _ _ | apply below_alloc))) HZ.out).mono ?_); rintro e w1 ⟨v1, v2, v3, v4, rfl, hm, hb1⟩; have hbx := blk_below (blk_alloc (blk_new w _) _) hb1; have hby := blk_below (blk2 w _ _) hb1; obtain ⟨g1, n1, y1, rfl⟩ := R_sl hm.r1; obtain ⟨g2, n2, y2, rfl⟩ := R_sl hm.r2; obtain ⟨g3, n3, y3, rfl⟩ := R_sl hm.r3; obtain ⟨g4, n4, y4, rfl⟩ := R_sl hm.r4; have b0 := (blk_cell hbx 0).trans rfl; have b1 := (blk_cell hbx 1).trans rfl; have b2 := (blk_cell hbx 2).trans rfl; have b3 := (blk_cell hbx 3).trans rfl; have b4 := (blk_cell hbx 4).trans rfl; have f0 := blk_frozen hbx 0; have f1 := blk_frozen hbx 1; have f2 := blk_frozen hbx 2; have f3 := blk_frozen hbx 3; have f4 := blk_frozen hbx 4; have HM := Aside0.mk hm; have HBX := Aside0.mk hbx; have HBY := Aside0.mk hby; have HB1 := Aside0.mk hb1; clear hm hbx hby hb1)
    have hO := own_made HM.out HBX.out (base := w.heap.size) (by simp only [World.size_alloc]; omega) (Nat.le_refl _)
    have hb := below_same (below_step (w := w) (by repeat (first | exact Below.refl _ _ | apply below_alloc)) HB1.out) (same5 w1 w.heap.size (.int .i64 x.tm) (.slice g1 n1 y1) (.slice g2 n2 y2) (.slice g3 n3 y3) (.slice g4 n4 y4)) (Nat.le_refl _)
    have hY := blk_same HBY.out (same5 w1 w.heap.size (.int .i64 x.tm) (.slice g1 n1 y1) (.slice g2 n2 y2) (.slice g3 n3 y3) (.slice g4 n4 y4)) (by omega)
    clear b0 b1 b2 b3 b4 f0 f1 f2 f3 f4 HM HBX HBY HB1
    generalize (((((w1.setCell ⟨w.heap.size, 0, none⟩ (.int .i64 x.tm)).setCell ⟨w.heap.size, 1, none⟩ (.slice g1 n1 y1)).setCell ⟨w.heap.size, 2, none⟩ (.slice g2 n2 y2)).setCell ⟨w.heap.size, 3, none⟩ (.slice g3 n3 y3)).setCell ⟨w.heap.size, 4, none⟩ (.slice g4 n4 y4)) = W2 at hO hb hY ⊢
    obtain rfl := hO.len1
    obtain rfl := hO.len2
    obtain rfl := hO.len3
    obtain rfl := hO.len4
    have b0 : W2.cell? ⟨w.heap.size, 0, none⟩ = some (.int .i64 x.tm) := (blk_cell hO.box 0).trans rfl; have b1 : W2.cell? ⟨w.heap.size, 1, none⟩ = some (.slice g1 x.st.length y1) := (blk_cell hO.box 1).trans rfl; have b2 : W2.cell? ⟨w.heap.size, 2, none⟩ = some (.slice g2 x.si.length y2) := (blk_cell hO.box 2).trans rfl; have b3 : W2.cell? ⟨w.heap.size, 3, none⟩ = some (.slice g3 x.pu.length y3) := (blk_cell hO.box 3).trans rfl; have b4 : W2.cell? ⟨w.heap.size, 4, none⟩ = some (.slice g4 x.he.length y4) := (blk_cell hO.box 4).trans rfl
    have HO := Aside0.mk hO
    have HB := Aside0.mk hb
    have HY := Aside0.mk hY
    clear hO hb hY
    go_wp2_with (go_at_call 41; (with_reducible refine (rvalid_calls l A c x ⟨g1, y1, g2, y2, g3, y3, g4, y4⟩ _ (Kd.C_below HL.out HB.out) HC.out HF.out HO.out.LC).mono ?_); rintro e w3 ⟨rfl, hb3⟩; rw [HE.out]; have ho3 := HO.out.below hb3; have hy3 := blk_below HY.out hb3; have b0 : w3.cell? ⟨w.heap.size, 0, none⟩ = some (.int .i64 x.tm) := (blk_cell ho3.box 0).trans rfl; have b1 : w3.cell? ⟨w.heap.size, 1, none⟩ = some (.slice g1 x.st.length y1) := (blk_cell ho3.box 1).trans rfl; have b2 : w3.cell? ⟨w.heap.size, 2, none⟩ = some (.slice g2 x.si.length y2) := (blk_cell ho3.box 2).trans rfl; have b3 : w3.cell? ⟨w.heap.size, 3, none⟩ = some (.slice g3 x.pu.length y3) := (blk_cell ho3.box 3).trans rfl; have b4 : w3.cell? ⟨w.heap.size, 4, none⟩ = some (.slice g4 x.he.length y4) := (blk_cell ho3.box 4).trans rfl; have z0 : w3.cell? ⟨w.heap.size + 1, 0, none⟩ = some (Value.int IntKind.i64 0) := (blk_cell hy3 0).trans rfl; have f0 := blk_frozen hy3 0; have z1 : w3.cell? ⟨w.heap.size + 1, 1, none⟩ = some (Value.slice none 0 0) := (blk_cell hy3 1).trans rfl; have f1 := blk_frozen hy3 1; have z2 : w3.cell? ⟨w.heap.size + 1, 2, none⟩ = some (Value.slice none 0 0) := (blk_cell hy3 2).trans rfl; have f2 := blk_frozen hy3 2; have z3 : w3.cell? ⟨w.heap.size + 1, 3, none⟩ = some (Value.slice none 0 0) := (blk_cell hy3 3).trans rfl; have f3 := blk_frozen hy3 3; have z4 : w3.cell? ⟨w.heap.size + 1, 4, none⟩ = some (Value.slice none 0 0) := (blk_cell hy3 4).trans rfl; have f4 := blk_frozen hy3 4; have HO3 := Aside0.mk ho3; have HY3 := Aside0.mk hy3; have HB3 := Aside0.mk (below_step HB.out hb3); clear ho3 hy3 hb3)
    refine bodyPost_ret (results_ct rfl _ _ (w.heap.size + 1) 34 #[.int .i64 x.tm, .slice g1 x.st.length y1, .slice g2 x.si.length y2, .slice g3 x.pu.length y3, .slice g4 x.he.length y4] (0, 0) _ rfl (set5 HY3.out _ _ _ _ _) hu34 rfl (by kernel_rfl)) rfl ?_
    exact give_own HO3.out HY3.out (by omega) HB3.out
end Go.Proofs.Ytejmjeanhlkenaa.HandA
