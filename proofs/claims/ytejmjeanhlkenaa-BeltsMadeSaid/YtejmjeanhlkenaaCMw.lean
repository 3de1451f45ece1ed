/- The law over lines reached by any steps, walked. -/
import Derived.Test.YtejmjeanhlkenaaCMk
import Derived.Test.YtejmjeanhlkenaaCDi
import Derived.Test.YtejmjeanhlkenaaCP1
namespace Go.Proofs.Ytejmjeanhlkenaa.HandA
open Go.RowKit Go.Proofs.Ytejmjeanhlkenaa.PB Go.Proofs.YtejmjeanhlkenaaW.PrintWords Go.Proofs.YtejmjeanhlkenaaW.PrintLast Go.Proofs.YtejmjeanhlkenaaW.PrintMore
set_option linter.unusedVariables false
set_option linter.unusedSimpArgs false
/-- agree, at a line whose lengths are told apart. -/
theorem agree_at (l : List S31) (A : Option Addr) (c : Nat) (Y : Ln) (a : La) (tm : Int) (n1 n2 n3 n4 : Nat) (i t : Int) (w : World) (hl : Kd.C k31 w A l.length l) (hc : l.length ≤ c) (hfit : Fit l.length) (hx : LC w a Y) (hz : Lz Y) (e0 : Y.tm = tm) (e1 : Y.st.length = n1) (e2 : Y.si.length = n2) (e3 : Y.pu.length = n3) (e4 : Y.he.length = n4) :
    Calls Try.prog 18 #[.slice A l.length c, .agg #[.int .i64 tm, .slice a.A1 n1 a.c1, .slice a.A2 n2 a.c2, .slice a.A3 n3 a.c3, .slice a.A4 n4 a.c4], .int .i64 i, .int .i64 t] w fun e w' => e = .returned (.bool true) ∧ Below w.heap.size w w' := by
  subst e0 e1 e2 e3 e4
  exact agree_calls l A c Y a i t w hl hc hfit hx hz
theorem bool_cut {V : World} {b : Nat} {xs : List Bool} (h : Kd.C Kd.bool V (some ⟨b, 0, none⟩) xs.length xs) (h1 : 1 ≤ xs.length) {d : Nat} (hd : xs.length ≤ d) : Kd.C Kd.bool V (if d = 1 then some ⟨b, 0, none⟩ else some ⟨b, 1, none⟩) (xs.drop 1).length (xs.drop 1) := by
  refine ⟨rfl, by rw [List.length_drop]; have := h.2.1; omega, fun hp => ?_⟩
  rw [List.length_drop] at hp
  obtain ⟨ad, e, hc⟩ := h.2.2 (by omega)
  cases e
  rw [if_neg (by omega)]
  refine ⟨_, rfl, fun j p hj => ?_⟩
  rw [List.getElem?_drop] at hj
  obtain ⟨cs, q1, q2, q3⟩ := hc (1 + j) p hj
  refine ⟨cs, q1, q2, fun i u hu => ?_⟩
  have e2 : (⟨b, 1, none⟩ : Addr).add (j * Kd.bool.sz + i) = (⟨b, 0, none⟩ : Addr).add ((1 + j) * Kd.bool.sz + i) := by
    show (⟨b, 1, none⟩ : Addr).add (j * 1 + i) = (⟨b, 0, none⟩ : Addr).add ((1 + j) * 1 + i)
    have hn : (1 + j) * 1 + i ≠ 0 := by omega
    by_cases hz : j * 1 + i = 0
    · obtain ⟨rfl, rfl⟩ : j = 0 ∧ i = 0 := by omega
      rfl
    · simp only [Addr.add, if_neg hn, if_neg hz]
      congr 1
      omega
  rw [e2]
  exact q3 i u hu
/-- The last row of the line is cut short. -/
theorem Mk.cut {w W : World} {g : Nat} {L : List Int} {p : Int} {l : List S31} {A A1 A2 A3 : Option Addr} {c bx b4 d1 d2 d3 d4 : Nat} {X : Ln} (h : Mk w W g L p l A c bx (.slice A1 X.st.length d1) (.slice A2 X.si.length d2) (.slice A3 X.pu.length d3) (.slice (some ⟨b4, 0, none⟩) X.he.length d4) X) (h1 : 1 ≤ X.he.length) :
    let u : Value := .slice (if d4 = 1 then some ⟨b4, 0, none⟩ else some ⟨b4, 1, none⟩) (X.he.length - 1) (d4 - 1)
    (W.setCell ⟨bx, 4, none⟩ u).heap[bx]? = some (.cells #[.int .i64 X.tm, .slice A1 X.st.length d1, .slice A2 X.si.length d2, .slice A3 X.pu.length d3, u] 34 (0, 0)) ∧
    LC (W.setCell ⟨bx, 4, none⟩ u) ⟨A1, d1, A2, d2, A3, d3, if d4 = 1 then some ⟨b4, 0, none⟩ else some ⟨b4, 1, none⟩, d4 - 1⟩ { X with he := X.he.drop 1 } ∧
    Kd.C k31 (W.setCell ⟨bx, 4, none⟩ u) A l.length l ∧ Below w.heap.size w (W.setCell ⟨bx, 4, none⟩ u) := by
  intro u
  have SS : Same W (W.setCell ⟨bx, 4, none⟩ u) bx := (Same.refl W bx).set 4 u
  have q1 := Kd.R_reads' (R_sameT h.own.r1 SS h.own.box (by decide))
  have q2 := Kd.R_reads' (R_sameT h.own.r2 SS h.own.box (by decide))
  have q3 := Kd.R_reads' (R_sameT h.own.r3 SS h.own.box (by decide))
  have q4 := Kd.R_reads' (R_sameT h.own.r4 SS h.own.box (by decide))
  refine ⟨by simpa using blk_set h.own.box 4 u, ⟨q1.2.2, q1.2.1, q2.2.2, q2.2.1, q3.2.2, q3.2.1, ?_, ?_⟩, (Kd.R_reads' (R_sameT h.row SS h.own.box (by decide))).2.2, below_set h.bel h.own.hB⟩
  · exact bool_cut q4.2.2 h1 q4.2.1
  · show (X.he.drop 1).length ≤ d4 - 1
    rw [List.length_drop]
    have := q4.2.1
    omega
theorem Good.lz {l : List S31} {X : Ln} (h : Good l X) : Lz X := h.1

set_option maxHeartbeats 16000000 in
set_option maxRecDepth 100000 in
theorem made_calls (L : List Int) (A0 : Option Addr) (c0 : Nat) (w : World) (hr0 : Kd.C (Kd.int .i64) w A0 L.length L) (hc0 : L.length ≤ c0) :
    Calls Try.prog 5 #[.slice A0 L.length c0] w fun e w' => e = .returned (.bool true) ∧ Below w.heap.size w w' := by
  have HR0 := Aside0.mk hr0
  have HC0 := Aside0.mk hc0
  have hu34 := Try.underlying34
  clear hr0 hc0
  by_cases hli : ¬ (L.length : Int) ≤ 400
  · have hlf : made_Light.f L = some false := by unfold made_Light.f; rw [decide_eq_false hli]
    go_enter Try.func5, Try.ntmps5
    go_wp2_with (first | (go_at_call 7; (with_reducible refine (made_Light.calls A0 c0 L false _ HR0.out HC0.out hlf).mono ?_); rintro e w0 ⟨rfl, ⟨nq0, rfl⟩⟩) | (go_at_call 8; (with_reducible refine (awake_calls _).mono ?_); rintro e w1 ⟨rfl, hb1⟩; have HB1 := Aside0.mk (below_step (pw_below_drewN (Below.refl w.heap.size w) nq0) hb1); clear hb1))
    go_ret
    exact ⟨rfl, (by repeat (first | exact HB1.out | apply below_drew1 | apply pw_below_drewN))⟩
  rw [Decidable.not_not] at hli
  have hlt : made_Light.f L = some true := by unfold made_Light.f; rw [decide_eq_true hli]
  have HLI := Aside0.mk hli
  obtain ⟨ks, ls, p1, hsome, l1, l6, hd1⟩ := some_ok (DiceOk.zero hli)
  obtain ⟨n0, p2, hnext, n0a, n0b, hd2⟩ := next_ok hd1 20 (by omega) (by omega)
  obtain ⟨n0, rfl⟩ : ∃ q : Nat, n0 = (q : Int) := ⟨n0.toNat, by omega⟩
  obtain ⟨X0, E0, hM⟩ : ∃ X E, makeG ls = (X, E) := ⟨_, _, rfl⟩
  have hG0 : Good ls X0 := by have := Good.made (l := ls) (by omega); rw [hM] at this; exact this
  have hfit : Fit ls.length := by unfold Fit; omega
  have HFIT := Aside0.mk hfit
  have HM := Aside0.mk hM
  have HG0 := Aside0.mk hG0
  have HD1 := Aside0.mk hd1
  have HD2 := Aside0.mk hd2
  have HSOME := Aside0.mk hsome
  have HNEXT := Aside0.mk hnext
  clear hfit hM hG0 hd1 hd2 hsome hnext hli
  go_enter Try.func5, Try.ntmps5
  go_upto_region 6 with (first | (go_at_call 7; (with_reducible refine (made_Light.calls A0 c0 L true _ HR0.out HC0.out hlt).mono ?_); rintro e w0 ⟨rfl, ⟨nq0, rfl⟩⟩) | (go_at_call 9; (with_reducible refine (made_Roll.calls A0 c0 L L 0 w _ (pw_below_drewN (Below.refl w.heap.size w) nq0) HR0.out HC0.out rfl).mono ?_); rintro e w1 ⟨g, rfl, hi, hb, -⟩; have HI1 := Aside0.mk hi; have HB1 := Aside0.mk hb; clear hi hb) | (go_at_call 20; (with_reducible refine (law39_some.calls ks g L 0 ls p1 w _ HI1.out HB1.out HSOME.out).mono ?_); rintro e w2 ⟨v, rfl, hr, hi, hb, -⟩; obtain ⟨A, c, rfl, hlc, hrc⟩ := Kd.R_reads hr; have HL2 := Aside0.mk hlc; have HRC2 := Aside0.mk hrc; have HR2 := Aside0.mk (Kd.R_lower hr (HB1.out.size)); have HI2 := Aside0.mk hi; have HB2 := Aside0.mk hb; clear hr hi hb hlc hrc) | (go_at_call 21; (with_reducible refine (rmake_calls ls A c _ HRC2.out HL2.out HFIT.out).mono ?_); rw [HM.out]; rintro e w3 ⟨v1, v2, v3, v4, rfl, hmm, hb⟩; obtain ⟨g1, d1, rfl⟩ := Kd.R_slice hmm.r1; obtain ⟨g2, d2, rfl⟩ := Kd.R_slice hmm.r2; obtain ⟨g3, d3, rfl⟩ := Kd.R_slice hmm.r3; obtain ⟨g4, d4, rfl⟩ := Kd.R_slice hmm.r4; have HMM := Aside0.mk hmm; have HB3 := Aside0.mk hb; clear hmm hb))
  have hMk : Mk w (w3.alloc (Obj.cells #[Value.int IntKind.i64 X0.tm, Value.slice g1 X0.st.length d1, Value.slice g2 X0.si.length d2, Value.slice g3 X0.pu.length d3, Value.slice g4 X0.he.length d4] 34)) g L p1 ls A c w3.heap.size (.slice g1 X0.st.length d1) (.slice g2 X0.si.length d2) (.slice g3 X0.pu.length d3) (.slice g4 X0.he.length d4) X0 := Mk.first HI2.out HB2.out HR2.out HB3.out HMM.out
  generalize (w3.alloc (Obj.cells #[Value.int IntKind.i64 X0.tm, Value.slice g1 X0.st.length d1, Value.slice g2 X0.si.length d2, Value.slice g3 X0.pu.length d3, Value.slice g4 X0.he.length d4] 34)) = W3 at hMk ⊢
  generalize w3.heap.size = bx at hMk ⊢
  have MK := Aside0.mk hMk
  clear hMk HI2 HB2 HR2 HB3 HMM HRC2 HI1 HB1 HL2
  go_upto_region 7 with (go_at_call 10; (with_reducible refine (made_Dice_Next.calls g L p1 20 n0 p2 w _ (Mk.dice (by repeat (first | exact MK.out | apply Mk.alloc | apply Mk.drewN | apply Mk.drew))) (Mk.bel (by repeat (first | exact MK.out | apply Mk.alloc | apply Mk.drewN | apply Mk.drew))) HNEXT.out).mono ?_); rintro e w4 ⟨rfl, hi, hb, hk⟩; have MK4 := Aside0.mk (Mk.throw (by repeat (first | exact MK.out | apply Mk.alloc | apply Mk.drewN | apply Mk.drew)) hi hb hk); clear hi hb hk)
  clear MK
  go_loopg [7] 20 (fun m v7 w' => ∃ (n : Nat) (p : Int) (X : Ln) (g1 : Option Addr) (d1 : Nat) (g2 : Option Addr) (d2 : Nat) (g3 : Option Addr) (d3 : Nat) (g4 : Option Addr) (d4 : Nat), v7 = .int .i64 n ∧ n ≤ m ∧ n ≤ 20 ∧ Aside0 (Mk w w' g L p ls A c bx (.slice g1 X.st.length d1) (.slice g2 X.si.length d2) (.slice g3 X.pu.length d3) (.slice g4 X.he.length d4) X) ∧ Aside0 (DiceOk L p) ∧ Aside0 (Good ls X))
  case atStart => exact ⟨n0, p2, X0, _, _, _, _, _, _, _, _, rfl, by omega, by omega, ⟨by repeat (first | exact MK4.out | apply Mk.alloc | apply Mk.drewN | apply Mk.drew)⟩, HD2, HG0⟩
  case round =>
    clear MK4
    obtain ⟨n, p, X, g1, d1, g2, d2, g3, d3, g4, d4, rfl, hm, hm20, MK, HD, HG⟩ := hrel
    have ⟨xc0, _, xc1, _, xc2, _, xc3, _, xc4, _⟩ := box_open MK.out.own.box
    by_cases hn : 0 < n
    · obtain ⟨m, rfl⟩ : ∃ q, gk = q + 1 := ⟨gk - 1, by omega⟩
      have hn2 : (0 : Int) < (n : Int) := by omega
      have hw : wrap64 ((ls.length : Int) + 1) = ls.length + 1 := by unfold wrap64; omega
      obtain ⟨q1, p3, hq1, _, _, hd3⟩ := next_ok HD.out (wrap64 ((ls.length : Int) + 1)) (by rw [hw]; omega) (by rw [hw]; omega)
      obtain ⟨q2, p4, hq2, _, _, hd4⟩ := next_ok hd3 2 (by omega) (by omega)
      obtain ⟨q3, p5, hq3, _, hd5⟩ := of_ok hd4 [5, 0, 3, 20, -1] (by simp) (by simp)
      obtain ⟨q4, p6, hq4, _, hd6⟩ := of_ok hd5 [0, 0, 1, 1, 2, 3, 4, 5] (by simp) (by simp)
      have Q1 := Aside0.mk hq1
      have Q2 := Aside0.mk hq2
      have Q3 := Aside0.mk hq3
      have Q4 := Aside0.mk hq4
      have D6 := Aside0.mk hd6
      clear hq1 hq2 hq3 hq4 hd3 hd4 hd5 hd6 hw
      go_upto_region 9 with fail
      have M0 := MK.out.drew
      refine start_ (n := 16) (S := (fun w' => w'.cell? ⟨bx, 0, none⟩ = some (.int .i64 X.tm))) (ds := []) #[false, false, false, false, false, false, false, false, false, false, false, false, false, false, false, false] (by kernel_rfl) rfl rfl ((blk_cell M0.own.box 0).trans rfl) (fun hHeld => ?_)
      refine pure_ (i := 0) (N := some 30) (v := ?_) (a' := ?_) #[true, false, false, false, false, false, false, false, false, false, false, false, false, false, false, false] rfl rfl (by kernel_rfl) (fun _ _ _ h => h) (Or.inl ⟨by rfl, ?_⟩) ?_ ?_
      rotate_left; · intro w'; go_simp; with_reducible rfl
      rotate_left; · simp only [Act.put, List.setIfInBounds_toArray, List.set_cons_zero, List.set_cons_succ, i64_w, i32_w]; rfl
      refine pure_ (i := 1) (N := some 31) (v := ?_) (a' := ?_) #[true, true, false, false, false, false, false, false, false, false, false, false, false, false, false, false] rfl rfl (by kernel_rfl) (fun _ _ _ h => h) (Or.inl ⟨by rfl, ?_⟩) ?_ ?_
      rotate_left; · intro w'; go_simp; with_reducible rfl
      rotate_left; · simp only [Act.put, List.setIfInBounds_toArray, List.set_cons_zero, List.set_cons_succ, i64_w, i32_w]; rfl
      refine pure_ (i := 2) (N := some 32) (v := ?_) (a' := ?_) #[true, true, true, false, false, false, false, false, false, false, false, false, false, false, false, false] rfl rfl (by kernel_rfl) (fun _ _ _ h => h) (Or.inl ⟨by rfl, ?_⟩) ?_ ?_
      rotate_left; · intro w'; go_simp; with_reducible rfl
      rotate_left; · simp only [Act.put, List.setIfInBounds_toArray, List.set_cons_zero, List.set_cons_succ, i64_w, i32_w]; rfl
      refine pure_ (i := 3) (N := some 33) (v := ?_) (a' := ?_) #[true, true, true, true, false, false, false, false, false, false, false, false, false, false, false, false] rfl rfl (by kernel_rfl) (fun _ _ _ h => h) (Or.inl ⟨by rfl, ?_⟩) ?_ ?_
      rotate_left; · intro w'; go_simp; with_reducible rfl
      rotate_left; · simp only [Act.put, List.setIfInBounds_toArray, List.set_cons_zero, List.set_cons_succ, i64_w, i32_w]; rfl
      refine pure_ (i := 5) (N := some 35) (v := ?_) (a' := ?_) #[true, true, true, true, false, true, false, false, false, false, false, false, false, false, false, false] rfl rfl (by kernel_rfl) (fun _ _ _ h => h) (Or.inl ⟨by rfl, ?_⟩) ?_ ?_
      rotate_left; · intro w'; go_simp; with_reducible rfl
      rotate_left; · simp only [Act.put, List.setIfInBounds_toArray, List.set_cons_zero, List.set_cons_succ, i64_w, i32_w]; rfl
      refine pure_ (i := 8) (N := some 38) (v := ?_) (a' := ?_) #[true, true, true, true, false, true, false, false, true, false, false, false, false, false, false, false] rfl rfl (by kernel_rfl) (fun _ _ _ h => h) (Or.inl ⟨by rfl, ?_⟩) ?_ ?_
      rotate_left; · intro w'; go_simp; with_reducible rfl
      rotate_left; · simp only [Act.put, List.setIfInBounds_toArray, List.set_cons_zero, List.set_cons_succ, i64_w, i32_w]; rfl
      refine pure_ (i := 10) (N := some 40) (v := ?_) (a' := ?_) #[true, true, true, true, false, true, false, false, true, false, true, false, false, false, false, false] rfl rfl (by kernel_rfl) (fun _ _ _ h => h) (Or.inl ⟨by rfl, ?_⟩) ?_ ?_
      rotate_left; · intro w'; go_simp; with_reducible rfl
      rotate_left; · simp only [Act.put, List.setIfInBounds_toArray, List.set_cons_zero, List.set_cons_succ, i64_w, i32_w]; rfl
      refine take_ (i := 9) (N := some 39) (v := ?_) (a' := ?_) #[true, true, true, true, false, true, false, false, true, true, true, false, false, false, false, false] rfl rfl (by kernel_rfl) (fun _ _ _ h => h) (Or.inl ⟨by rfl, ?_⟩) hHeld ?_ ?_
      rotate_left; · intro w' s0; go_simp; with_reducible rfl
      rotate_left; · simp only [Act.put, List.setIfInBounds_toArray, List.set_cons_zero, List.set_cons_succ, i64_w, i32_w]; rfl
      clear hHeld
      refine join_ (σ := Nat) 4 #[true, true, true, true, true, true, true, true, true, true, true, true, false, false, false, false] (fun B => [(34, .int .i64 q1), (36, .int .i64 q2), (37, .int .i64 (wrap64 (q1 - q2))), (41, .slice (some ⟨B, 0, none⟩) 5 5)]) (fun B w' => Mk w w' g L p4 ls A c bx (.slice g1 X.st.length d1) (.slice g2 X.si.length d2) (.slice g3 X.pu.length d3) (.slice g4 X.he.length d4) X ∧ w'.heap[B]? = some (Obj.cells #[Value.int IntKind.i64 5, Value.int IntKind.i64 0, Value.int IntKind.i64 3, Value.int IntKind.i64 20, Value.int IntKind.i64 (-1)] 3 (0, 0)) ∧ B ≠ g) ?_ ?_
      · rintro B W6 ⟨M6, hB, nB⟩
        simp only [putAll, Act.put, List.setIfInBounds_toArray, List.set_cons_zero, List.set_cons_succ]
        refine one_ (i := 12) (N := some 42) #[true, true, true, true, true, true, true, true, true, true, true, true, true, false, false, false] rfl rfl (by kernel_rfl) (by decide) (fun K hK => ?_)
        refine goes_ Try.func11 (by kernel_rfl) rfl #[.pointer (some ⟨g, 0, none⟩), .slice (some ⟨B, 0, none⟩) 5 5] (by rfl) rfl rfl (by simp only [List.map_toArray, List.map_cons, List.map_nil]; rfl) ?_
        refine (made_Dice_Of.calls g L p4 (some ⟨B, 0, none⟩) 5 [5, 0, 3, 20, -1] q3 p5 w _ M6.dice M6.bel (row_read (xs := [5, 0, 3, 20, -1]) hB (by decide)) (by decide) (by intro ad h _; cases h; exact nB) Q3.out).mono ?_
        rintro e W7 ⟨rfl, hi, hb, hk⟩
        refine ⟨_, rfl, ?_⟩
        have M7 := M6.throw hi hb hk
        clear hi hb hk
        refine hK.out _ _ ((blk_cell M7.own.box 0).trans rfl) (fun hHeld => ?_)
        clear hK K hHeld
        refine norm_ (a' := ?_) ?_ ?_
        rotate_left
        · show Act.put _ (some 42) _ = _; simp only [Act.put, List.setIfInBounds_toArray, List.set_cons_zero, List.set_cons_succ, i64_w, i32_w]; rfl
        refine pure_ (i := 13) (N := some 43) (v := ?_) (a' := ?_) #[true, true, true, true, true, true, true, true, true, true, true, true, true, true, false, false] rfl rfl (by kernel_rfl) (fun _ _ _ h => h) (Or.inl ⟨by rfl, ?_⟩) ?_ ?_
        rotate_left; · intro w'; go_simp; with_reducible rfl
        rotate_left; · simp only [Act.put, List.setIfInBounds_toArray, List.set_cons_zero, List.set_cons_succ, i64_w, i32_w]; rfl
        refine pure_ (i := 14) (N := some 8) (v := ?_) (a' := ?_) #[true, true, true, true, true, true, true, true, true, true, true, true, true, true, true, false] rfl rfl (by kernel_rfl) (fun _ _ _ h => h) (Or.inl ⟨by rfl, ?_⟩) ?_ ?_
        rotate_left; · intro w'; go_simp; with_reducible rfl
        rotate_left; · simp only [Act.put, List.setIfInBounds_toArray, List.set_cons_zero, List.set_cons_succ, i64_w, i32_w]; rfl
        refine pure_ (i := 15) (N := some 9) (v := ?_) (a' := ?_) #[true, true, true, true, true, true, true, true, true, true, true, true, true, true, true, true] rfl rfl (by kernel_rfl) (fun _ _ _ h => h) (Or.inl ⟨by rfl, ?_⟩) ?_ ?_
        rotate_left; · intro w'; go_simp; with_reducible rfl
        rotate_left; · simp only [Act.put, List.setIfInBounds_toArray, List.set_cons_zero, List.set_cons_succ, i64_w, i32_w]; rfl
        refine done_ (by kernel_rfl) ?_
        obtain ⟨Y, E, hRY⟩ : ∃ Y E, stepF ls X q4 (wrap64 (q1 - q2)) (wrap64 (X.tm + q3)) = (Y, E) := ⟨_, _, rfl⟩
        have hGY : Good ls Y := by have := HG.out.step (what := q4) (i := wrap64 (q1 - q2)) (t := wrap64 (X.tm + q3)); rw [hRY] at this; exact this
        have HRY := Aside0.mk hRY
        have HGY := Aside0.mk hGY
        clear hRY hGY
        obtain ⟨xc0, -, xc1, -, xc2, -, xc3, -, xc4, -⟩ := box_open M7.own.box
        go_upto_region 12 with (go_at_call 18; (with_reducible refine (agree_calls ls A c X ⟨g1, d1, g2, d2, g3, d3, g4, d4⟩ (wrap64 (q1 - q2)) (wrap64 (X.tm + q3)) _ M7.read.1 M7.read.2 HFIT.out M7.own.LC HG.out.lz).mono ?_); rintro e W8 ⟨rfl, hb⟩; have MK8 := Aside0.mk (M7.below hb); clear hb)
        clear M7 M6 hB nB xc0 xc1 xc2 xc3 xc4
        have M9 := MK8.out.drew
        refine start_ (n := 14) (S := (fun w' => w'.cell? ⟨bx, 0, none⟩ = some (.int .i64 X.tm) ∧ w'.cell? ⟨bx, 1, none⟩ = some (.slice g1 X.st.length d1) ∧ w'.cell? ⟨bx, 2, none⟩ = some (.slice g2 X.si.length d2) ∧ w'.cell? ⟨bx, 3, none⟩ = some (.slice g3 X.pu.length d3) ∧ w'.cell? ⟨bx, 4, none⟩ = some (.slice g4 X.he.length d4))) (ds := [13]) #[false, false, false, false, false, false, false, false, false, false, false, false, false, false] (by kernel_rfl) rfl rfl ⟨(blk_cell M9.own.box 0).trans rfl, (blk_cell M9.own.box 1).trans rfl, (blk_cell M9.own.box 2).trans rfl, (blk_cell M9.own.box 3).trans rfl, (blk_cell M9.own.box 4).trans rfl⟩ (fun hHeld => ?_)
        refine pure_ (i := 0) (N := some 51) (v := ?_) (a' := ?_) #[true, false, false, false, false, false, false, false, false, false, false, false, false, false] rfl rfl (by kernel_rfl) (fun _ _ _ h => h) (Or.inl ⟨by rfl, ?_⟩) ?_ ?_
        rotate_left; · intro w'; go_simp; with_reducible rfl
        rotate_left; · simp only [Act.put, List.setIfInBounds_toArray, List.set_cons_zero, List.set_cons_succ, i64_w, i32_w]; rfl
        refine pure_ (i := 2) (N := some 53) (v := ?_) (a' := ?_) #[true, false, true, false, false, false, false, false, false, false, false, false, false, false] rfl rfl (by kernel_rfl) (fun _ _ _ h => h) (Or.inl ⟨by rfl, ?_⟩) ?_ ?_
        rotate_left; · intro w'; go_simp; with_reducible rfl
        rotate_left; · simp only [Act.put, List.setIfInBounds_toArray, List.set_cons_zero, List.set_cons_succ, i64_w, i32_w]; rfl
        refine pure_ (i := 5) (N := some 56) (v := ?_) (a' := ?_) #[true, false, true, false, false, true, false, false, false, false, false, false, false, false] rfl rfl (by kernel_rfl) (fun _ _ _ h => h) (Or.inl ⟨by rfl, ?_⟩) ?_ ?_
        rotate_left; · intro w'; go_simp; with_reducible rfl
        rotate_left; · simp only [Act.put, List.setIfInBounds_toArray, List.set_cons_zero, List.set_cons_succ, i64_w, i32_w]; rfl
        refine pure_ (i := 6) (N := some 57) (v := ?_) (a' := ?_) #[true, false, true, false, false, true, true, false, false, false, false, false, false, false] rfl rfl (by kernel_rfl) (fun _ _ _ h => h) (Or.inl ⟨by rfl, ?_⟩) ?_ ?_
        rotate_left; · intro w'; go_simp; with_reducible rfl
        rotate_left; · simp only [Act.put, List.setIfInBounds_toArray, List.set_cons_zero, List.set_cons_succ, i64_w, i32_w]; rfl
        refine take_ (i := 1) (N := some 52) (v := ?_) (a' := ?_) #[true, true, true, false, false, true, true, false, false, false, false, false, false, false] rfl rfl (by kernel_rfl) (fun _ _ _ h => h) (Or.inl ⟨by rfl, ?_⟩) hHeld ?_ ?_
        rotate_left; · rintro w' ⟨s0, s1, s2, s3, s4⟩; go_simp; with_reducible rfl
        rotate_left; · simp only [Act.put, List.setIfInBounds_toArray, List.set_cons_zero, List.set_cons_succ, i64_w, i32_w]; rfl
        clear hHeld
        refine one_ (i := 3) (N := some 54) #[true, true, true, true, false, true, true, false, false, false, false, false, false, false] rfl rfl (by kernel_rfl) (by decide) (fun K hK => ?_)
        refine lit_step (by rfl) (n := 8) (cs := #[Value.int IntKind.i64 0, Value.int IntKind.i64 0, Value.int IntKind.i64 1, Value.int IntKind.i64 1, Value.int IntKind.i64 2, Value.int IntKind.i64 3, Value.int IntKind.i64 4, Value.int IntKind.i64 5]) (t := 3) (by first | (go_simp; done) | (go_simp; rfl)) ?_
        intro B eB W2 hB hb
        have M10 := M9.below hb
        have nB : B ≠ g := by have := M9.dice.lt; omega
        clear eB
        refine hK.out _ _ ⟨(blk_cell M10.own.box 0).trans rfl, (blk_cell M10.own.box 1).trans rfl, (blk_cell M10.own.box 2).trans rfl, (blk_cell M10.own.box 3).trans rfl, (blk_cell M10.own.box 4).trans rfl⟩ (fun hHeld => ?_)
        clear hK K hHeld hb
        refine norm_ (a' := ?_) ?_ ?_
        rotate_left
        · show Act.put _ (some 54) _ = _; simp only [Act.put, List.setIfInBounds_toArray, List.set_cons_zero, List.set_cons_succ, i64_w, i32_w]; rfl
        refine one_ (i := 4) (N := some 55) #[true, true, true, true, true, true, true, false, false, false, false, false, false, false] rfl rfl (by kernel_rfl) (by decide) (fun K hK => ?_)
        refine goes_ Try.func11 (by kernel_rfl) rfl #[.pointer (some ⟨g, 0, none⟩), .slice (some ⟨B, 0, none⟩) 8 8] (by rfl) rfl rfl (by simp only [List.map_toArray, List.map_cons, List.map_nil]; rfl) ?_
        refine (made_Dice_Of.calls g L p5 (some ⟨B, 0, none⟩) 8 [0, 0, 1, 1, 2, 3, 4, 5] q4 p6 w _ M10.dice M10.bel (row_read (xs := [0, 0, 1, 1, 2, 3, 4, 5]) hB (by decide)) (by decide) (by intro ad h _; cases h; exact nB) Q4.out).mono ?_
        rintro e W11 ⟨rfl, hi, hb, hk⟩
        refine ⟨_, rfl, ?_⟩
        have M11 := M10.throw hi hb hk
        clear hi hb hk hB nB
        refine hK.out _ _ ⟨(blk_cell M11.own.box 0).trans rfl, (blk_cell M11.own.box 1).trans rfl, (blk_cell M11.own.box 2).trans rfl, (blk_cell M11.own.box 3).trans rfl, (blk_cell M11.own.box 4).trans rfl⟩ (fun hHeld => ?_)
        clear hK K hHeld
        refine norm_ (a' := ?_) ?_ ?_
        rotate_left
        · show Act.put _ (some 55) _ = _; simp only [Act.put, List.setIfInBounds_toArray, List.set_cons_zero, List.set_cons_succ, i64_w, i32_w]; rfl
        refine one_ (i := 7) (N := some 58) #[true, true, true, true, true, true, true, true, false, false, false, false, false, false] rfl rfl (by kernel_rfl) (by decide) (fun K hK => ?_)
        refine goes_ Try.func22 (by kernel_rfl) rfl #[.slice A ls.length c, .agg #[.int .i64 X.tm, .slice g1 X.st.length d1, .slice g2 X.si.length d2, .slice g3 X.pu.length d3, .slice g4 X.he.length d4], .int .i64 q4, .int .i64 (wrap64 (q1 - q2)), .int .i64 (wrap64 (X.tm + q3))] (by rfl) rfl rfl (by simp only [List.map_toArray, List.map_cons, List.map_nil]; rfl) ?_
        refine (step_calls ls A c X ⟨g1, d1, g2, d2, g3, d3, g4, d4⟩ q4 (wrap64 (q1 - q2)) (wrap64 (X.tm + q3)) _ M11.read.1 M11.read.2 HFIT.out M11.own.LC HG.out.lz).mono ?_
        rw [HRY.out]
        rintro e W12 ⟨a1, v1, v2, v3, v4, rfl, -, hmm, hb⟩
        refine ⟨_, rfl, ?_⟩
        have M12 := M11.below hb
        have hP := fun h1 h2 h3 h4 h5 => @Mk.put w W11 W12 g L p6 ls A c bx _ _ _ _ X W11.heap.size h1 h2 h3 h4 Y M11 hb h5 M11.bel.size
        obtain ⟨e1, f1, rfl⟩ := Kd.R_slice hmm.r1; obtain ⟨e2, f2, rfl⟩ := Kd.R_slice hmm.r2; obtain ⟨e3, f3, rfl⟩ := Kd.R_slice hmm.r3; obtain ⟨e4, f4, rfl⟩ := Kd.R_slice hmm.r4
        have M13 := hP _ _ _ _ hmm
        clear hP hb hmm
        refine hK.out _ _ ⟨(blk_cell M12.own.box 0).trans rfl, (blk_cell M12.own.box 1).trans rfl, (blk_cell M12.own.box 2).trans rfl, (blk_cell M12.own.box 3).trans rfl, (blk_cell M12.own.box 4).trans rfl⟩ (fun hHeld => ?_)
        clear hK K hHeld
        refine norm_ (a' := ?_) ?_ ?_
        rotate_left
        · show Act.put _ (some 58) _ = _; simp only [Act.put, List.setIfInBounds_toArray, List.set_cons_zero, List.set_cons_succ, i64_w, i32_w]; rfl
        refine pure_ (i := 8) (N := some 50) (v := ?_) (a' := ?_) #[true, true, true, true, true, true, true, true, true, false, false, false, false, false] rfl rfl (by kernel_rfl) (fun _ _ _ h => h) (Or.inl ⟨by rfl, ?_⟩) ?_ ?_
        rotate_left; · intro w'; go_simp; with_reducible rfl
        rotate_left; · simp only [Act.put, List.setIfInBounds_toArray, List.set_cons_zero, List.set_cons_succ, i64_w, i32_w]; rfl
        refine pure_ (i := 9) (N := some 59) (v := ?_) (a' := ?_) #[true, true, true, true, true, true, true, true, true, true, false, false, false, false] rfl rfl (by kernel_rfl) (fun _ _ _ h => h) (Or.inl ⟨by rfl, ?_⟩) ?_ ?_
        rotate_left; · intro w'; go_simp; with_reducible rfl
        rotate_left; · simp only [Act.put, List.setIfInBounds_toArray, List.set_cons_zero, List.set_cons_succ, i64_w, i32_w]; rfl
        refine pure_ (i := 10) (N := some 60) (v := ?_) (a' := ?_) #[true, true, true, true, true, true, true, true, true, true, true, false, false, false] rfl rfl (by kernel_rfl) (fun _ _ _ h => h) (Or.inl ⟨by rfl, ?_⟩) ?_ ?_
        rotate_left; · intro w'; go_simp; with_reducible rfl
        rotate_left; · simp only [Act.put, List.setIfInBounds_toArray, List.set_cons_zero, List.set_cons_succ, i64_w, i32_w]; rfl
        refine pure_ (i := 11) (N := some 61) (v := ?_) (a' := ?_) #[true, true, true, true, true, true, true, true, true, true, true, true, false, false] rfl rfl (by kernel_rfl) (fun _ _ _ h => h) (Or.inl ⟨by rfl, ?_⟩) ?_ ?_
        rotate_left; · intro w'; go_simp; with_reducible rfl
        rotate_left; · simp only [Act.put, List.setIfInBounds_toArray, List.set_cons_zero, List.set_cons_succ, i64_w, i32_w]; rfl
        refine pure_ (i := 12) (N := some 62) (v := ?_) (a' := ?_) #[true, true, true, true, true, true, true, true, true, true, true, true, true, false] rfl rfl (by kernel_rfl) (fun _ _ _ h => h) (Or.inl ⟨by rfl, ?_⟩) ?_ ?_
        rotate_left; · intro w'; go_simp; with_reducible rfl
        rotate_left; · simp only [Act.put, List.setIfInBounds_toArray, List.set_cons_zero, List.set_cons_succ, i64_w, i32_w]; rfl
        refine last_ (i := 13) (N := none) #[true, true, true, true, true, true, true, true, true, true, true, true, true, true] rfl rfl (by kernel_rfl) (by decide) (fun K hK => ?_)
        obtain ⟨o0, u0, o1, u1, o2, u2, o3, u3, o4, u4⟩ := box_open M12.own.box
        refine skip_ (w1 := ?_) (by rfl) rfl ?_ ?_
        rotate_left
        · go_simp; rfl
        refine hK.out _ _ ?_
        clear hK K
        refine done_ (by kernel_rfl) ?_
        go_wp2_with fail
        go_roundg m
        case measure => omega
        case rel => exact ⟨n - 1, p6, Y, _, _, _, _, _, _, _, _, (by first | go_num | (congr 1; first | omega | (unfold wrap64; omega))), (by omega), (by omega), ⟨M13⟩, D6, HGY⟩
      intro J9
      refine two_ (i := 4) (j := 11) (Ni := some 34) (Nj := some 41) #[true, true, true, true, true, true, false, false, true, true, true, false, false, false, false, false] #[true, true, true, true, false, true, false, false, true, true, true, true, false, false, false, false] rfl rfl rfl rfl (by kernel_rfl) (by decide) (by decide) (fun K hK => ?_) (fun K hK => ?_)
      rotate_left
      · refine lit_step (by rfl) (n := 5) (cs := #[Value.int IntKind.i64 5, Value.int IntKind.i64 0, Value.int IntKind.i64 3, Value.int IntKind.i64 20, Value.int IntKind.i64 (-1)]) (t := 3) (by first | (go_simp; done) | (go_simp; rfl)) ?_
        intro B eB W2 hB hb
        have M1 := M0.below hb
        have nB : B ≠ g := by have := M0.dice.lt; omega
        clear eB
        refine hK.out _ _ ((blk_cell M1.own.box 0).trans rfl) (fun hHeld => ?_)
        clear hK K hHeld hb
        refine norm_ (a' := ?_) ?_ ?_
        rotate_left
        · show Act.put _ (some 41) _ = _; simp only [Act.put, List.setIfInBounds_toArray, List.set_cons_zero, List.set_cons_succ, i64_w, i32_w]; rfl
        refine one_ (i := 4) (N := some 34) #[true, true, true, true, true, true, false, false, true, true, true, true, false, false, false, false] rfl rfl (by kernel_rfl) (by decide) (fun K hK => ?_)
        refine goes_ Try.func10 (by kernel_rfl) rfl #[.pointer (some ⟨g, 0, none⟩), .int .i64 (wrap64 ((ls.length : Int) + 1))] (by rfl) rfl rfl (by simp only [List.map_toArray, List.map_cons, List.map_nil]; rfl) ?_
        refine (made_Dice_Next.calls g L p (wrap64 ((ls.length : Int) + 1)) q1 p3 w _ M1.dice M1.bel Q1.out).mono ?_
        rintro e wM2 ⟨rfl, hi, hb, hk⟩
        refine ⟨_, rfl, ?_⟩
        have M2 := M1.throw hi hb hk
        have KM2 := keep_blk hB hk nB
        clear hi hb hk
        refine hK.out _ _ ((blk_cell M2.own.box 0).trans rfl) (fun hHeld => ?_)
        clear hK K hHeld
        refine norm_ (a' := ?_) ?_ ?_
        rotate_left
        · show Act.put _ (some 34) _ = _; simp only [Act.put, List.setIfInBounds_toArray, List.set_cons_zero, List.set_cons_succ, i64_w, i32_w]; rfl
        refine one_ (i := 6) (N := some 36) #[true, true, true, true, true, true, true, false, true, true, true, true, false, false, false, false] rfl rfl (by kernel_rfl) (by decide) (fun K hK => ?_)
        refine goes_ Try.func10 (by kernel_rfl) rfl #[.pointer (some ⟨g, 0, none⟩), .int .i64 2] (by rfl) rfl rfl (by simp only [List.map_toArray, List.map_cons, List.map_nil]; rfl) ?_
        refine (made_Dice_Next.calls g L p3 2 q2 p4 w _ M2.dice M2.bel Q2.out).mono ?_
        rintro e wM3 ⟨rfl, hi, hb, hk⟩
        refine ⟨_, rfl, ?_⟩
        have M3 := M2.throw hi hb hk
        have KM3 := keep_blk KM2 hk nB
        clear hi hb hk
        refine hK.out _ _ ((blk_cell M3.own.box 0).trans rfl) (fun hHeld => ?_)
        clear hK K hHeld
        refine norm_ (a' := ?_) ?_ ?_
        rotate_left
        · show Act.put _ (some 36) _ = _; simp only [Act.put, List.setIfInBounds_toArray, List.set_cons_zero, List.set_cons_succ, i64_w, i32_w]; rfl
        refine pure_ (i := 7) (N := some 37) (v := ?_) (a' := ?_) #[true, true, true, true, true, true, true, true, true, true, true, true, false, false, false, false] rfl rfl (by kernel_rfl) (fun _ _ _ h => h) (Or.inl ⟨by rfl, ?_⟩) ?_ ?_
        rotate_left; · intro w'; go_simp; with_reducible rfl
        rotate_left; · simp only [Act.put, List.setIfInBounds_toArray, List.set_cons_zero, List.set_cons_succ, i64_w, i32_w]; rfl
        exact norm_ (by first | (simp only [putAll, Act.put, List.setIfInBounds_toArray, List.set_cons_zero, List.set_cons_succ]; done) | (simp only [putAll, Act.put, List.setIfInBounds_toArray, List.set_cons_zero, List.set_cons_succ]; rfl)) (J9 B _ ⟨M3, KM3, nB⟩)
      refine goes_ Try.func10 (by kernel_rfl) rfl #[.pointer (some ⟨g, 0, none⟩), .int .i64 (wrap64 ((ls.length : Int) + 1))] (by rfl) rfl rfl (by simp only [List.map_toArray, List.map_cons, List.map_nil]; rfl) ?_
      refine (made_Dice_Next.calls g L p (wrap64 ((ls.length : Int) + 1)) q1 p3 w _ M0.dice M0.bel Q1.out).mono ?_
      rintro e wM1 ⟨rfl, hi, hb, hk⟩
      refine ⟨_, rfl, ?_⟩
      have M1 := M0.throw hi hb hk
      clear hi hb hk
      refine hK.out _ _ ((blk_cell M1.own.box 0).trans rfl) (fun hHeld => ?_)
      clear hK K hHeld
      refine norm_ (a' := ?_) ?_ ?_
      rotate_left
      · show Act.put _ (some 34) _ = _; simp only [Act.put, List.setIfInBounds_toArray, List.set_cons_zero, List.set_cons_succ, i64_w, i32_w]; rfl
      refine two_ (i := 6) (j := 11) (Ni := some 36) (Nj := some 41) #[true, true, true, true, true, true, true, false, true, true, true, false, false, false, false, false] #[true, true, true, true, true, true, false, false, true, true, true, true, false, false, false, false] rfl rfl rfl rfl (by kernel_rfl) (by decide) (by decide) (fun K hK => ?_) (fun K hK => ?_)
      rotate_left
      · refine lit_step (by rfl) (n := 5) (cs := #[Value.int IntKind.i64 5, Value.int IntKind.i64 0, Value.int IntKind.i64 3, Value.int IntKind.i64 20, Value.int IntKind.i64 (-1)]) (t := 3) (by first | (go_simp; done) | (go_simp; rfl)) ?_
        intro B eB W2 hB hb
        have M2 := M1.below hb
        have nB : B ≠ g := by have := M1.dice.lt; omega
        clear eB
        refine hK.out _ _ ((blk_cell M2.own.box 0).trans rfl) (fun hHeld => ?_)
        clear hK K hHeld hb
        refine norm_ (a' := ?_) ?_ ?_
        rotate_left
        · show Act.put _ (some 41) _ = _; simp only [Act.put, List.setIfInBounds_toArray, List.set_cons_zero, List.set_cons_succ, i64_w, i32_w]; rfl
        refine one_ (i := 6) (N := some 36) #[true, true, true, true, true, true, true, false, true, true, true, true, false, false, false, false] rfl rfl (by kernel_rfl) (by decide) (fun K hK => ?_)
        refine goes_ Try.func10 (by kernel_rfl) rfl #[.pointer (some ⟨g, 0, none⟩), .int .i64 2] (by rfl) rfl rfl (by simp only [List.map_toArray, List.map_cons, List.map_nil]; rfl) ?_
        refine (made_Dice_Next.calls g L p3 2 q2 p4 w _ M2.dice M2.bel Q2.out).mono ?_
        rintro e wM3 ⟨rfl, hi, hb, hk⟩
        refine ⟨_, rfl, ?_⟩
        have M3 := M2.throw hi hb hk
        have KM3 := keep_blk hB hk nB
        clear hi hb hk
        refine hK.out _ _ ((blk_cell M3.own.box 0).trans rfl) (fun hHeld => ?_)
        clear hK K hHeld
        refine norm_ (a' := ?_) ?_ ?_
        rotate_left
        · show Act.put _ (some 36) _ = _; simp only [Act.put, List.setIfInBounds_toArray, List.set_cons_zero, List.set_cons_succ, i64_w, i32_w]; rfl
        refine pure_ (i := 7) (N := some 37) (v := ?_) (a' := ?_) #[true, true, true, true, true, true, true, true, true, true, true, true, false, false, false, false] rfl rfl (by kernel_rfl) (fun _ _ _ h => h) (Or.inl ⟨by rfl, ?_⟩) ?_ ?_
        rotate_left; · intro w'; go_simp; with_reducible rfl
        rotate_left; · simp only [Act.put, List.setIfInBounds_toArray, List.set_cons_zero, List.set_cons_succ, i64_w, i32_w]; rfl
        exact norm_ (by first | (simp only [putAll, Act.put, List.setIfInBounds_toArray, List.set_cons_zero, List.set_cons_succ]; done) | (simp only [putAll, Act.put, List.setIfInBounds_toArray, List.set_cons_zero, List.set_cons_succ]; rfl)) (J9 B _ ⟨M3, KM3, nB⟩)
      refine goes_ Try.func10 (by kernel_rfl) rfl #[.pointer (some ⟨g, 0, none⟩), .int .i64 2] (by rfl) rfl rfl (by simp only [List.map_toArray, List.map_cons, List.map_nil]; rfl) ?_
      refine (made_Dice_Next.calls g L p3 2 q2 p4 w _ M1.dice M1.bel Q2.out).mono ?_
      rintro e wM2 ⟨rfl, hi, hb, hk⟩
      refine ⟨_, rfl, ?_⟩
      have M2 := M1.throw hi hb hk
      clear hi hb hk
      refine hK.out _ _ ((blk_cell M2.own.box 0).trans rfl) (fun hHeld => ?_)
      clear hK K hHeld
      refine norm_ (a' := ?_) ?_ ?_
      rotate_left
      · show Act.put _ (some 36) _ = _; simp only [Act.put, List.setIfInBounds_toArray, List.set_cons_zero, List.set_cons_succ, i64_w, i32_w]; rfl
      refine pure_ (i := 7) (N := some 37) (v := ?_) (a' := ?_) #[true, true, true, true, true, true, true, true, true, true, true, false, false, false, false, false] rfl rfl (by kernel_rfl) (fun _ _ _ h => h) (Or.inl ⟨by rfl, ?_⟩) ?_ ?_
      rotate_left; · intro w'; go_simp; with_reducible rfl
      rotate_left; · simp only [Act.put, List.setIfInBounds_toArray, List.set_cons_zero, List.set_cons_succ, i64_w, i32_w]; rfl
      refine one_ (i := 11) (N := some 41) #[true, true, true, true, true, true, true, true, true, true, true, true, false, false, false, false] rfl rfl (by kernel_rfl) (by decide) (fun K hK => ?_)
      refine lit_step (by rfl) (n := 5) (cs := #[Value.int IntKind.i64 5, Value.int IntKind.i64 0, Value.int IntKind.i64 3, Value.int IntKind.i64 20, Value.int IntKind.i64 (-1)]) (t := 3) (by first | (go_simp; done) | (go_simp; rfl)) ?_
      intro B eB W2 hB hb
      have M3 := M2.below hb
      have nB : B ≠ g := by have := M2.dice.lt; omega
      clear eB
      refine hK.out _ _ ((blk_cell M3.own.box 0).trans rfl) (fun hHeld => ?_)
      clear hK K hHeld hb
      refine norm_ (a' := ?_) ?_ ?_
      rotate_left
      · show Act.put _ (some 41) _ = _; simp only [Act.put, List.setIfInBounds_toArray, List.set_cons_zero, List.set_cons_succ, i64_w, i32_w]; rfl
      exact norm_ (by first | (simp only [putAll, Act.put, List.setIfInBounds_toArray, List.set_cons_zero, List.set_cons_succ]; done) | (simp only [putAll, Act.put, List.setIfInBounds_toArray, List.set_cons_zero, List.set_cons_succ]; rfl)) (J9 B _ ⟨M3, hB, nB⟩)
    · have hn0 : ¬ (0 : Int) < (n : Int) := by omega
      have HLC := Aside0.mk MK.out.read.2
      go_upto_region 13 with fail
      by_cases hs : ¬ 0 < X.st.length
      · have hs2 : ¬ (0 : Int) < (X.st.length : Int) := by omega
        go_upto_region 23 with fail
        have HLF := Aside0.mk MK.out.read.1
        have HXF := Aside0.mk MK.out.own.LC
        have HZF := Aside0.mk HG.out.lz
        have HBF := Aside0.mk MK.out.bel
        go_wp2_with (first | (go_at_call 8; (with_reducible refine (awake_calls _).mono ?_); rintro e w31 ⟨rfl, hb1⟩; have S31 : w31.cell? ⟨bx, 0, none⟩ = some (Value.int IntKind.i64 X.tm) ∧ w31.cell? ⟨bx, 1, none⟩ = some (Value.slice g1 X.st.length d1) ∧ w31.cell? ⟨bx, 2, none⟩ = some (Value.slice g2 X.si.length d2) ∧ w31.cell? ⟨bx, 3, none⟩ = some (Value.slice g3 X.pu.length d3) ∧ w31.cell? ⟨bx, 4, none⟩ = some (Value.slice g4 (X.he.length) (d4)) := ⟨pw_cell_below hb1 (by first | assumption | simp [*]), pw_cell_below hb1 (by first | assumption | simp [*]), pw_cell_below hb1 (by first | assumption | simp [*]), pw_cell_below hb1 (by first | assumption | simp [*]), pw_cell_below hb1 (by first | assumption | simp [*])⟩; have HB31 := Aside0.mk (below_step (by repeat (first | exact HBF.out | apply below_drew1 | apply pw_below_drewN)) hb1); have HL31 := Aside0.mk (Kd.C_below HLF.out hb1); have HX31 := Aside0.mk (HXF.out.below hb1); clear hb1) | (go_at_call 18; (with_reducible refine (agree_at ls A c X ⟨g1, d1, g2, d2, g3, d3, g4, d4⟩ X.tm X.st.length X.si.length X.pu.length (X.he.length) 0 (wrap64 (X.tm + 5)) _ HL31.out HLC.out HFIT.out HX31.out HZF.out rfl rfl rfl rfl rfl).mono ?_); rintro e w32 ⟨rfl, hb2⟩; have S32 : w32.cell? ⟨bx, 0, none⟩ = some (Value.int IntKind.i64 X.tm) ∧ w32.cell? ⟨bx, 1, none⟩ = some (Value.slice g1 X.st.length d1) ∧ w32.cell? ⟨bx, 2, none⟩ = some (Value.slice g2 X.si.length d2) ∧ w32.cell? ⟨bx, 3, none⟩ = some (Value.slice g3 X.pu.length d3) ∧ w32.cell? ⟨bx, 4, none⟩ = some (Value.slice g4 (X.he.length) (d4)) := ⟨pw_cell_below hb2 (by first | assumption | simp [*]), pw_cell_below hb2 (by first | assumption | simp [*]), pw_cell_below hb2 (by first | assumption | simp [*]), pw_cell_below hb2 (by first | assumption | simp [*]), pw_cell_below hb2 (by first | assumption | simp [*])⟩; have HB32 := Aside0.mk (below_step HB31.out hb2); clear hb2))
        go_ret
        exact ⟨rfl, (by repeat (first | exact HB32.out | apply below_drew1 | apply pw_below_drewN))⟩
      rw [Decidable.not_not] at hs
      have hs2 : (0 : Int) < (X.st.length : Int) := by omega
      have hLen : Lens X ls.length := by rcases HG.out.2 with h | h; omega; exact h
      obtain ⟨q1, p3, hq1, q1a, q1b, hd3⟩ := next_ok HD.out (ls.length : Int) (by omega) (by omega)
      obtain ⟨q2, p4, hq2, q2a, q2b, hd4⟩ := next_ok hd3 4 (by omega) (by omega)
      obtain ⟨q3, p5, hq3, -, hd5⟩ := of_ok hd4 [2, 3, -1] (by simp) (by simp)
      have Q1 := Aside0.mk hq1
      have Q2 := Aside0.mk hq2
      have Q3 := Aside0.mk hq3
      clear hq1 hq2 hq3 hd3 hd4 hd5
      obtain ⟨b1, b2, b3, b4, rfl, rfl, rfl, rfl⟩ := MK.out.own.addr hLen (by omega)
      obtain ⟨k, rfl⟩ : ∃ k : Nat, q1 = (k : Int) := ⟨q1.toNat, by omega⟩
      go_upto_region 15 with (go_at_call 10; (with_reducible refine (made_Dice_Next.calls g L p (ls.length : Int) (k : Int) p3 w _ (Mk.dice (by repeat (first | exact MK.out | apply Mk.alloc | apply Mk.drewN | apply Mk.drew))) (Mk.bel (by repeat (first | exact MK.out | apply Mk.alloc | apply Mk.drewN | apply Mk.drew))) Q1.out).mono ?_); rintro e w5 ⟨rfl, hi, hb, hk⟩; have MK5 := Aside0.mk (Mk.throw (by repeat (first | exact MK.out | apply Mk.alloc | apply Mk.drewN | apply Mk.drew)) hi hb hk); clear hi hb hk)
      have hk0 : (0 : Int) ≤ (k : Int) := by omega
      have hk1 : (k : Int) < (X.st.length : Int) := by rw [hLen.e1]; omega
      have hk2 : (k : Int) < (X.si.length : Int) := by rw [hLen.e2]; omega
      have hk3 : (k : Int) < (X.pu.length : Int) := by rw [hLen.e3]; omega
      have hk4 : 1 ≤ X.he.length := by rw [hLen.e4]; omega
      rcases (show q2 = 0 ∨ q2 = 1 ∨ q2 = 2 ∨ q2 = 3 by omega) with rfl | rfl | rfl | rfl
      · go_upto_region 18 with (go_at_call 10; (with_reducible refine (made_Dice_Next.calls g L p3 4 0 p4 w _ (Mk.dice (by repeat (first | exact MK5.out | apply Mk.alloc | apply Mk.drewN | apply Mk.drew))) (Mk.bel (by repeat (first | exact MK5.out | apply Mk.alloc | apply Mk.drewN | apply Mk.drew))) Q2.out).mono ?_); rintro e w6 ⟨rfl, hi, hb, hk⟩; have MK6 := Aside0.mk (Mk.throw (by repeat (first | exact MK5.out | apply Mk.alloc | apply Mk.drewN | apply Mk.drew)) hi hb hk); clear hi hb hk)
        have M7 := MK6.out.drew
        refine start_ (n := 8) (S := (fun w' => w'.cell? ⟨bx, 1, none⟩ = some (.slice (some ⟨b1, 0, none⟩) X.st.length d1))) (ds := [7]) #[false, false, false, false, false, false, false, false] (by kernel_rfl) rfl rfl ((blk_cell M7.own.box 1).trans rfl) (fun hHeld => ?_)
        refine pure_ (i := 0) (N := some 79) (v := ?_) (a' := ?_) #[true, false, false, false, false, false, false, false] rfl rfl (by kernel_rfl) (fun _ _ _ h => h) (Or.inl ⟨by rfl, ?_⟩) ?_ ?_
        rotate_left; · intro w'; go_simp; with_reducible rfl
        rotate_left; · simp only [Act.put, List.setIfInBounds_toArray, List.set_cons_zero, List.set_cons_succ, i64_w, i32_w]; rfl
        refine pure_ (i := 2) (N := some 81) (v := ?_) (a' := ?_) #[true, false, true, false, false, false, false, false] rfl rfl (by kernel_rfl) (fun _ _ _ h => h) (Or.inl ⟨by rfl, ?_⟩) ?_ ?_
        rotate_left; · intro w'; go_simp; with_reducible rfl
        rotate_left; · simp only [Act.put, List.setIfInBounds_toArray, List.set_cons_zero, List.set_cons_succ, i64_w, i32_w]; rfl
        refine pure_ (i := 3) (N := some 82) (v := ?_) (a' := ?_) #[true, false, true, true, false, false, false, false] rfl rfl (by kernel_rfl) (fun _ _ _ h => h) (Or.inl ⟨by rfl, ?_⟩) ?_ ?_
        rotate_left; · intro w'; go_simp; with_reducible rfl
        rotate_left; · simp only [Act.put, List.setIfInBounds_toArray, List.set_cons_zero, List.set_cons_succ, i64_w, i32_w]; rfl
        refine take_ (i := 1) (N := some 80) (v := ?_) (a' := ?_) #[true, true, true, true, false, false, false, false] rfl rfl (by kernel_rfl) (fun _ _ _ h => h) (Or.inl ⟨by rfl, ?_⟩) hHeld ?_ ?_
        rotate_left; · intro w' s0; go_simp; with_reducible rfl
        rotate_left; · simp only [Act.put, List.setIfInBounds_toArray, List.set_cons_zero, List.set_cons_succ, i64_w, i32_w]; rfl
        clear hHeld
        refine one_ (i := 4) (N := some 83) #[true, true, true, true, true, false, false, false] rfl rfl (by kernel_rfl) (by decide) (fun K hK => ?_)
        refine lit_step (by rfl) (n := 3) (cs := #[Value.int IntKind.i64 2, Value.int IntKind.i64 3, Value.int IntKind.i64 (-1)]) (t := 3) (by first | (go_simp; done) | (go_simp; rfl)) ?_
        intro B eB W2 hB hb
        have M8 := M7.below hb
        have nB : B ≠ g := by have := M7.dice.lt; omega
        clear eB
        refine hK.out _ _ ((blk_cell M8.own.box 1).trans rfl) (fun hHeld => ?_)
        clear hK K hHeld hb
        refine norm_ (a' := ?_) ?_ ?_
        rotate_left
        · show Act.put _ (some 83) _ = _; simp only [Act.put, List.setIfInBounds_toArray, List.set_cons_zero, List.set_cons_succ, i64_w, i32_w]; rfl
        refine one_ (i := 5) (N := some 84) #[true, true, true, true, true, true, false, false] rfl rfl (by kernel_rfl) (by decide) (fun K hK => ?_)
        refine goes_ Try.func11 (by kernel_rfl) rfl #[.pointer (some ⟨g, 0, none⟩), .slice (some ⟨B, 0, none⟩) 3 3] (by rfl) rfl rfl (by simp only [List.map_toArray, List.map_cons, List.map_nil]; rfl) ?_
        refine (made_Dice_Of.calls g L p4 (some ⟨B, 0, none⟩) 3 [2, 3, -1] q3 p5 w _ M8.dice M8.bel (row_read (xs := [2, 3, -1]) hB (by decide)) (by decide) (by intro ad h _; cases h; exact nB) Q3.out).mono ?_
        rintro e W9 ⟨rfl, hi, hb, hk⟩
        refine ⟨_, rfl, ?_⟩
        have M9 := M8.throw hi hb hk
        clear hi hb hk hB nB
        refine hK.out _ _ ((blk_cell M9.own.box 1).trans rfl) (fun hHeld => ?_)
        clear hK K hHeld
        refine norm_ (a' := ?_) ?_ ?_
        rotate_left
        · show Act.put _ (some 84) _ = _; simp only [Act.put, List.setIfInBounds_toArray, List.set_cons_zero, List.set_cons_succ, i64_w, i32_w]; rfl
        refine pure_ (i := 6) (N := some 85) (v := ?_) (a' := ?_) #[true, true, true, true, true, true, true, false] rfl rfl (by kernel_rfl) (fun _ _ _ h => h) (Or.inl ⟨by rfl, ?_⟩) ?_ ?_
        rotate_left; · intro w'; go_simp; with_reducible rfl
        rotate_left; · simp only [Act.put, List.setIfInBounds_toArray, List.set_cons_zero, List.set_cons_succ, i64_w, i32_w]; rfl
        refine last_ (i := 7) (N := none) #[true, true, true, true, true, true, true, true] rfl rfl (by kernel_rfl) (by decide) (fun K hK => ?_)
        obtain ⟨m0, m1⟩ := M9.own.cell1 (k : Int) hk0 hk1
        rw [Int.toNat_natCast] at m0 m1
        refine skip_ (w1 := ?_) (by rfl) rfl ?_ ?_
        rotate_left
        · go_simp; rfl
        refine hK.out _ _ ?_
        clear hK K
        refine done_ (by kernel_rfl) ?_
        obtain ⟨x1, x2, x3, x4, x5, x6, y1, y2, y3, y4, ⟨cs1, hc1⟩, ⟨cs2, hc2⟩, ⟨cs3, hc3⟩, -⟩ := M9.own.facts
        have hc_ := hc1; have hge := y1
        have hO := M9.own.setSt rfl x3 hc1 (k : Int) q3
        rw [Int.toNat_natCast] at hO
        have hW := M9.wr hc_ (by decide) hge (j := k) (.int .i64 q3)
        have HLF := Aside0.mk hW.1
        have HBF := Aside0.mk hW.2
        have HXF := Aside0.mk hO.LC
        have HZF := Aside0.mk (show Lz { X with st := X.st.set k q3 } from ⟨by simpa using HG.out.lz.z1, by simpa using HG.out.lz.z2, by simpa using HG.out.lz.z3, by simpa using HG.out.lz.z4⟩)
        obtain ⟨z0, -, z1, -, z2, -, z3, -, z4, -⟩ := box_open hO.box
        clear hO hW
        go_upto_region 23 with fail
        go_wp2_with (first | (go_at_call 8; (with_reducible refine (awake_calls _).mono ?_); rintro e w31 ⟨rfl, hb1⟩; have S31 : w31.cell? ⟨bx, 0, none⟩ = some (Value.int IntKind.i64 X.tm) ∧ w31.cell? ⟨bx, 1, none⟩ = some (Value.slice (some ⟨b1, 0, none⟩) X.st.length d1) ∧ w31.cell? ⟨bx, 2, none⟩ = some (Value.slice (some ⟨b2, 0, none⟩) X.si.length d2) ∧ w31.cell? ⟨bx, 3, none⟩ = some (Value.slice (some ⟨b3, 0, none⟩) X.pu.length d3) ∧ w31.cell? ⟨bx, 4, none⟩ = some (Value.slice (some ⟨b4, 0, none⟩) (X.he.length) (d4)) := ⟨pw_cell_below hb1 (by first | assumption | simp [*]), pw_cell_below hb1 (by first | assumption | simp [*]), pw_cell_below hb1 (by first | assumption | simp [*]), pw_cell_below hb1 (by first | assumption | simp [*]), pw_cell_below hb1 (by first | assumption | simp [*])⟩; have HB31 := Aside0.mk (below_step (by repeat (first | exact HBF.out | apply below_drew1 | apply pw_below_drewN)) hb1); have HL31 := Aside0.mk (Kd.C_below HLF.out hb1); have HX31 := Aside0.mk (HXF.out.below hb1); clear hb1) | (go_at_call 18; (with_reducible refine (agree_at ls A c { X with st := X.st.set k q3 } ⟨some ⟨b1, 0, none⟩, d1, some ⟨b2, 0, none⟩, d2, some ⟨b3, 0, none⟩, d3, (some ⟨b4, 0, none⟩), d4⟩ X.tm X.st.length X.si.length X.pu.length (X.he.length) 0 (wrap64 (X.tm + 5)) _ HL31.out HLC.out HFIT.out HX31.out HZF.out rfl (by simp) rfl rfl rfl).mono ?_); rintro e w32 ⟨rfl, hb2⟩; have S32 : w32.cell? ⟨bx, 0, none⟩ = some (Value.int IntKind.i64 X.tm) ∧ w32.cell? ⟨bx, 1, none⟩ = some (Value.slice (some ⟨b1, 0, none⟩) X.st.length d1) ∧ w32.cell? ⟨bx, 2, none⟩ = some (Value.slice (some ⟨b2, 0, none⟩) X.si.length d2) ∧ w32.cell? ⟨bx, 3, none⟩ = some (Value.slice (some ⟨b3, 0, none⟩) X.pu.length d3) ∧ w32.cell? ⟨bx, 4, none⟩ = some (Value.slice (some ⟨b4, 0, none⟩) (X.he.length) (d4)) := ⟨pw_cell_below hb2 (by first | assumption | simp [*]), pw_cell_below hb2 (by first | assumption | simp [*]), pw_cell_below hb2 (by first | assumption | simp [*]), pw_cell_below hb2 (by first | assumption | simp [*]), pw_cell_below hb2 (by first | assumption | simp [*])⟩; have HB32 := Aside0.mk (below_step HB31.out hb2); clear hb2))
        go_ret
        exact ⟨rfl, (by repeat (first | exact HB32.out | apply below_drew1 | apply pw_below_drewN))⟩
      · go_upto_region 20 with (go_at_call 10; (with_reducible refine (made_Dice_Next.calls g L p3 4 1 p4 w _ (Mk.dice (by repeat (first | exact MK5.out | apply Mk.alloc | apply Mk.drewN | apply Mk.drew))) (Mk.bel (by repeat (first | exact MK5.out | apply Mk.alloc | apply Mk.drewN | apply Mk.drew))) Q2.out).mono ?_); rintro e w6 ⟨rfl, hi, hb, hk⟩; have MK6 := Aside0.mk (Mk.throw (by repeat (first | exact MK5.out | apply Mk.alloc | apply Mk.drewN | apply Mk.drew)) hi hb hk); clear hi hb hk)
        obtain ⟨m0, m1⟩ := MK6.out.own.cell2 (k : Int) hk0 hk2
        rw [Int.toNat_natCast] at m0 m1
        obtain ⟨z0, -, z1, -, z2, -, z3, -, z4, -⟩ := box_open MK6.out.own.box
        go_upto_region 23 with fail
        clear z0 z1 z2 z3 z4
        obtain ⟨x1, x2, x3, x4, x5, x6, y1, y2, y3, y4, ⟨cs1, hc1⟩, ⟨cs2, hc2⟩, ⟨cs3, hc3⟩, -⟩ := MK6.out.own.facts
        have hc_ := hc2; have hge := y2
        have hO := MK6.out.own.setSi rfl x4 hc2 (k : Int) (wrap64 (X.tm + 1))
        rw [Int.toNat_natCast] at hO
        have hW := MK6.out.wr hc_ (by decide) hge (j := k) (.int .i64 (wrap64 (X.tm + 1)))
        have HLF := Aside0.mk hW.1
        have HBF := Aside0.mk hW.2
        have HXF := Aside0.mk hO.LC
        have HZF := Aside0.mk (show Lz { X with si := X.si.set k (wrap64 (X.tm + 1)) } from ⟨by simpa using HG.out.lz.z1, by simpa using HG.out.lz.z2, by simpa using HG.out.lz.z3, by simpa using HG.out.lz.z4⟩)
        obtain ⟨z0, -, z1, -, z2, -, z3, -, z4, -⟩ := box_open hO.box
        clear hO hW
        go_wp2_with (first | (go_at_call 8; (with_reducible refine (awake_calls _).mono ?_); rintro e w31 ⟨rfl, hb1⟩; have S31 : w31.cell? ⟨bx, 0, none⟩ = some (Value.int IntKind.i64 X.tm) ∧ w31.cell? ⟨bx, 1, none⟩ = some (Value.slice (some ⟨b1, 0, none⟩) X.st.length d1) ∧ w31.cell? ⟨bx, 2, none⟩ = some (Value.slice (some ⟨b2, 0, none⟩) X.si.length d2) ∧ w31.cell? ⟨bx, 3, none⟩ = some (Value.slice (some ⟨b3, 0, none⟩) X.pu.length d3) ∧ w31.cell? ⟨bx, 4, none⟩ = some (Value.slice (some ⟨b4, 0, none⟩) (X.he.length) (d4)) := ⟨pw_cell_below hb1 (by first | assumption | simp [*]), pw_cell_below hb1 (by first | assumption | simp [*]), pw_cell_below hb1 (by first | assumption | simp [*]), pw_cell_below hb1 (by first | assumption | simp [*]), pw_cell_below hb1 (by first | assumption | simp [*])⟩; have HB31 := Aside0.mk (below_step (by repeat (first | exact HBF.out | apply below_drew1 | apply pw_below_drewN)) hb1); have HL31 := Aside0.mk (Kd.C_below HLF.out hb1); have HX31 := Aside0.mk (HXF.out.below hb1); clear hb1) | (go_at_call 18; (with_reducible refine (agree_at ls A c { X with si := X.si.set k (wrap64 (X.tm + 1)) } ⟨some ⟨b1, 0, none⟩, d1, some ⟨b2, 0, none⟩, d2, some ⟨b3, 0, none⟩, d3, (some ⟨b4, 0, none⟩), d4⟩ X.tm X.st.length X.si.length X.pu.length (X.he.length) 0 (wrap64 (X.tm + 5)) _ HL31.out HLC.out HFIT.out HX31.out HZF.out rfl rfl (by simp) rfl rfl).mono ?_); rintro e w32 ⟨rfl, hb2⟩; have S32 : w32.cell? ⟨bx, 0, none⟩ = some (Value.int IntKind.i64 X.tm) ∧ w32.cell? ⟨bx, 1, none⟩ = some (Value.slice (some ⟨b1, 0, none⟩) X.st.length d1) ∧ w32.cell? ⟨bx, 2, none⟩ = some (Value.slice (some ⟨b2, 0, none⟩) X.si.length d2) ∧ w32.cell? ⟨bx, 3, none⟩ = some (Value.slice (some ⟨b3, 0, none⟩) X.pu.length d3) ∧ w32.cell? ⟨bx, 4, none⟩ = some (Value.slice (some ⟨b4, 0, none⟩) (X.he.length) (d4)) := ⟨pw_cell_below hb2 (by first | assumption | simp [*]), pw_cell_below hb2 (by first | assumption | simp [*]), pw_cell_below hb2 (by first | assumption | simp [*]), pw_cell_below hb2 (by first | assumption | simp [*]), pw_cell_below hb2 (by first | assumption | simp [*])⟩; have HB32 := Aside0.mk (below_step HB31.out hb2); clear hb2))
        go_ret
        exact ⟨rfl, (by repeat (first | exact HB32.out | apply below_drew1 | apply pw_below_drewN))⟩
      · go_upto_region 22 with (go_at_call 10; (with_reducible refine (made_Dice_Next.calls g L p3 4 2 p4 w _ (Mk.dice (by repeat (first | exact MK5.out | apply Mk.alloc | apply Mk.drewN | apply Mk.drew))) (Mk.bel (by repeat (first | exact MK5.out | apply Mk.alloc | apply Mk.drewN | apply Mk.drew))) Q2.out).mono ?_); rintro e w6 ⟨rfl, hi, hb, hk⟩; have MK6 := Aside0.mk (Mk.throw (by repeat (first | exact MK5.out | apply Mk.alloc | apply Mk.drewN | apply Mk.drew)) hi hb hk); clear hi hb hk)
        obtain ⟨m0, m1⟩ := MK6.out.own.cell3 (k : Int) hk0 hk3
        rw [Int.toNat_natCast] at m0 m1
        obtain ⟨z0, -, z1, -, z2, -, z3, -, z4, -⟩ := box_open MK6.out.own.box
        go_upto_region 23 with fail
        clear z0 z1 z2 z3 z4
        obtain ⟨x1, x2, x3, x4, x5, x6, y1, y2, y3, y4, ⟨cs1, hc1⟩, ⟨cs2, hc2⟩, ⟨cs3, hc3⟩, -⟩ := MK6.out.own.facts
        have hc_ := hc3; have hge := y3
        have hO := MK6.out.own.setPu rfl x5 hc3 (k : Int) true
        rw [Int.toNat_natCast] at hO
        have hW := MK6.out.wr hc_ (by decide) hge (j := k) (.bool true)
        have HLF := Aside0.mk hW.1
        have HBF := Aside0.mk hW.2
        have HXF := Aside0.mk hO.LC
        have HZF := Aside0.mk (show Lz { X with pu := X.pu.set k true } from ⟨by simpa using HG.out.lz.z1, by simpa using HG.out.lz.z2, by simpa using HG.out.lz.z3, by simpa using HG.out.lz.z4⟩)
        obtain ⟨z0, -, z1, -, z2, -, z3, -, z4, -⟩ := box_open hO.box
        clear hO hW
        go_wp2_with (first | (go_at_call 8; (with_reducible refine (awake_calls _).mono ?_); rintro e w31 ⟨rfl, hb1⟩; have S31 : w31.cell? ⟨bx, 0, none⟩ = some (Value.int IntKind.i64 X.tm) ∧ w31.cell? ⟨bx, 1, none⟩ = some (Value.slice (some ⟨b1, 0, none⟩) X.st.length d1) ∧ w31.cell? ⟨bx, 2, none⟩ = some (Value.slice (some ⟨b2, 0, none⟩) X.si.length d2) ∧ w31.cell? ⟨bx, 3, none⟩ = some (Value.slice (some ⟨b3, 0, none⟩) X.pu.length d3) ∧ w31.cell? ⟨bx, 4, none⟩ = some (Value.slice (some ⟨b4, 0, none⟩) (X.he.length) (d4)) := ⟨pw_cell_below hb1 (by first | assumption | simp [*]), pw_cell_below hb1 (by first | assumption | simp [*]), pw_cell_below hb1 (by first | assumption | simp [*]), pw_cell_below hb1 (by first | assumption | simp [*]), pw_cell_below hb1 (by first | assumption | simp [*])⟩; have HB31 := Aside0.mk (below_step (by repeat (first | exact HBF.out | apply below_drew1 | apply pw_below_drewN)) hb1); have HL31 := Aside0.mk (Kd.C_below HLF.out hb1); have HX31 := Aside0.mk (HXF.out.below hb1); clear hb1) | (go_at_call 18; (with_reducible refine (agree_at ls A c { X with pu := X.pu.set k true } ⟨some ⟨b1, 0, none⟩, d1, some ⟨b2, 0, none⟩, d2, some ⟨b3, 0, none⟩, d3, (some ⟨b4, 0, none⟩), d4⟩ X.tm X.st.length X.si.length X.pu.length (X.he.length) 0 (wrap64 (X.tm + 5)) _ HL31.out HLC.out HFIT.out HX31.out HZF.out rfl rfl rfl (by simp) rfl).mono ?_); rintro e w32 ⟨rfl, hb2⟩; have S32 : w32.cell? ⟨bx, 0, none⟩ = some (Value.int IntKind.i64 X.tm) ∧ w32.cell? ⟨bx, 1, none⟩ = some (Value.slice (some ⟨b1, 0, none⟩) X.st.length d1) ∧ w32.cell? ⟨bx, 2, none⟩ = some (Value.slice (some ⟨b2, 0, none⟩) X.si.length d2) ∧ w32.cell? ⟨bx, 3, none⟩ = some (Value.slice (some ⟨b3, 0, none⟩) X.pu.length d3) ∧ w32.cell? ⟨bx, 4, none⟩ = some (Value.slice (some ⟨b4, 0, none⟩) (X.he.length) (d4)) := ⟨pw_cell_below hb2 (by first | assumption | simp [*]), pw_cell_below hb2 (by first | assumption | simp [*]), pw_cell_below hb2 (by first | assumption | simp [*]), pw_cell_below hb2 (by first | assumption | simp [*]), pw_cell_below hb2 (by first | assumption | simp [*])⟩; have HB32 := Aside0.mk (below_step HB31.out hb2); clear hb2))
        go_ret
        exact ⟨rfl, (by repeat (first | exact HB32.out | apply below_drew1 | apply pw_below_drewN))⟩
      · go_upto_region 16 with (go_at_call 10; (with_reducible refine (made_Dice_Next.calls g L p3 4 3 p4 w _ (Mk.dice (by repeat (first | exact MK5.out | apply Mk.alloc | apply Mk.drewN | apply Mk.drew))) (Mk.bel (by repeat (first | exact MK5.out | apply Mk.alloc | apply Mk.drewN | apply Mk.drew))) Q2.out).mono ?_); rintro e w6 ⟨rfl, hi, hb, hk⟩; have MK6 := Aside0.mk (Mk.throw (by repeat (first | exact MK5.out | apply Mk.alloc | apply Mk.drewN | apply Mk.drew)) hi hb hk); clear hi hb hk)
        have hc4 : X.he.length ≤ d4 := (Kd.R_reads' MK6.out.own.r4).2.1
        obtain ⟨o0, u0, o1, u1, o2, u2, o3, u3, o4, u4⟩ := box_open MK6.out.own.box
        have hk5 : (1 : Int) ≤ (X.he.length : Int) := by omega
        have hk6 : (X.he.length : Int) ≤ (d4 : Int) := by omega
        have hk7 : (1 : Int) ≤ (d4 : Int) := by omega
        go_upto_region 23 with fail
        clear o0 u0 o1 u1 o2 u2 o3 u3 o4 u4
        have hC := MK6.out.cut hk4
        dsimp only at hC
        generalize (if d4 = 1 then some (⟨b4, 0, none⟩ : Addr) else some ⟨b4, 1, none⟩) = A4 at hC ⊢
        obtain ⟨hbx, hlc, hll, hbb⟩ := hC
        have HLF := Aside0.mk hll
        have HBF := Aside0.mk hbb
        have HXF := Aside0.mk hlc
        have HZF := Aside0.mk (show Lz { X with he := X.he.drop 1 } from ⟨HG.out.lz.z1, HG.out.lz.z2, HG.out.lz.z3, by have := HG.out.lz.z4; rw [List.length_drop]; omega⟩)
        obtain ⟨z0, -, z1, -, z2, -, z3, -, z4, -⟩ := box_open hbx
        clear hbx hlc hll hbb
        go_wp2_with (first | (go_at_call 8; (with_reducible refine (awake_calls _).mono ?_); rintro e w31 ⟨rfl, hb1⟩; have S31 : w31.cell? ⟨bx, 0, none⟩ = some (Value.int IntKind.i64 X.tm) ∧ w31.cell? ⟨bx, 1, none⟩ = some (Value.slice (some ⟨b1, 0, none⟩) X.st.length d1) ∧ w31.cell? ⟨bx, 2, none⟩ = some (Value.slice (some ⟨b2, 0, none⟩) X.si.length d2) ∧ w31.cell? ⟨bx, 3, none⟩ = some (Value.slice (some ⟨b3, 0, none⟩) X.pu.length d3) ∧ w31.cell? ⟨bx, 4, none⟩ = some (Value.slice A4 (X.he.length - 1) (d4 - 1)) := ⟨pw_cell_below hb1 (by first | assumption | simp [*]), pw_cell_below hb1 (by first | assumption | simp [*]), pw_cell_below hb1 (by first | assumption | simp [*]), pw_cell_below hb1 (by first | assumption | simp [*]), pw_cell_below hb1 (by first | assumption | simp [*])⟩; have HB31 := Aside0.mk (below_step (by repeat (first | exact HBF.out | apply below_drew1 | apply pw_below_drewN)) hb1); have HL31 := Aside0.mk (Kd.C_below HLF.out hb1); have HX31 := Aside0.mk (HXF.out.below hb1); clear hb1) | (go_at_call 18; (with_reducible refine (agree_at ls A c { X with he := X.he.drop 1 } ⟨some ⟨b1, 0, none⟩, d1, some ⟨b2, 0, none⟩, d2, some ⟨b3, 0, none⟩, d3, A4, d4 - 1⟩ X.tm X.st.length X.si.length X.pu.length (X.he.length - 1) 0 (wrap64 (X.tm + 5)) _ HL31.out HLC.out HFIT.out HX31.out HZF.out rfl rfl rfl rfl List.length_drop).mono ?_); rintro e w32 ⟨rfl, hb2⟩; have S32 : w32.cell? ⟨bx, 0, none⟩ = some (Value.int IntKind.i64 X.tm) ∧ w32.cell? ⟨bx, 1, none⟩ = some (Value.slice (some ⟨b1, 0, none⟩) X.st.length d1) ∧ w32.cell? ⟨bx, 2, none⟩ = some (Value.slice (some ⟨b2, 0, none⟩) X.si.length d2) ∧ w32.cell? ⟨bx, 3, none⟩ = some (Value.slice (some ⟨b3, 0, none⟩) X.pu.length d3) ∧ w32.cell? ⟨bx, 4, none⟩ = some (Value.slice A4 (X.he.length - 1) (d4 - 1)) := ⟨pw_cell_below hb2 (by first | assumption | simp [*]), pw_cell_below hb2 (by first | assumption | simp [*]), pw_cell_below hb2 (by first | assumption | simp [*]), pw_cell_below hb2 (by first | assumption | simp [*]), pw_cell_below hb2 (by first | assumption | simp [*])⟩; have HB32 := Aside0.mk (below_step HB31.out hb2); clear hb2))
        go_ret
        exact ⟨rfl, (by repeat (first | exact HB32.out | apply below_drew1 | apply pw_below_drewN))⟩
end Go.Proofs.Ytejmjeanhlkenaa.HandA
