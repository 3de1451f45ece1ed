/- The law over records written one after the other, walked. -/
import Derived.Test.YtgniegpeeaphlaaHFl
namespace Go.Proofs.Ytgniegpeeaphlaa.HandA
open Go.RowKit Go.Proofs.Ytgniegpeeaphlaa.PR Go.Proofs.YtgniegpeeaphlaaW.PrintWords Go.Proofs.YtgniegpeeaphlaaW.PrintLast Go.Proofs.YtgniegpeeaphlaaW.PrintMore
set_option linter.unusedVariables false
set_option linter.unusedSimpArgs false

set_option maxHeartbeats 16000000 in
set_option maxRecDepth 100000 in
theorem bytes_calls (L : List Int) (A0 : Option Addr) (c0 : Nat) (at_ bit : Int) (w : World) (hr0 : Kd.C (Kd.int .i64) w A0 L.length L) (hc0 : L.length ≤ c0) :
    Calls Try.prog 4 #[.slice A0 L.length c0, .int .i64 at_, .int .i64 bit] w fun e w' => e = .returned (.bool true) ∧ Below w.heap.size w w' := by
  have HR0 := Aside0.mk hr0
  have HC0 := Aside0.mk hc0
  have hu32 := Try.underlying32
  clear hr0 hc0
  by_cases hli : ¬ (L.length : Int) ≤ 400
  · have hlf : made_Light.f L = some false := by unfold made_Light.f; rw [decide_eq_false hli]
    go_enter Try.func4, Try.ntmps4
    go_wp2_with (first | (go_at_call 8; (with_reducible refine (made_Light.calls A0 c0 L false _ HR0.out HC0.out hlf).mono ?_); rintro e w0 ⟨rfl, ⟨nq0, rfl⟩⟩) | (go_at_call 9; (with_reducible refine (awake_calls _).mono ?_); rintro e w1 ⟨rfl, hb1⟩; have HB1 := Aside0.mk (below_step (pw_below_drewN (Below.refl w.heap.size w) nq0) hb1); clear hb1))
    go_ret
    exact ⟨rfl, (by repeat (first | exact HB1.out | apply below_drew1 | apply pw_below_drewN))⟩
  rw [Decidable.not_not] at hli
  have hlt : made_Light.f L = some true := by unfold made_Light.f; rw [decide_eq_true hli]
  obtain ⟨n0, p1, hn0, n0a, n0b, hd1⟩ := next_ok (DiceOk.zero hli) 8 (by omega) (by omega)
  have hw1 : wrap64 (1 + n0) = 1 + n0 := by unfold wrap64; omega
  obtain ⟨n1, hn1⟩ : ∃ q : Nat, 1 + n0 = (q : Int) := ⟨(1 + n0).toNat, by omega⟩
  have HN0 := Aside0.mk hn0
  have HD1 := Aside0.mk hd1
  clear hn0 hd1 hli
  go_enter Try.func4, Try.ntmps4
  go_wp2_with (first | (go_at_call 8; (with_reducible refine (made_Light.calls A0 c0 L true _ HR0.out HC0.out hlt).mono ?_); rintro e w0 ⟨rfl, ⟨nq0, rfl⟩⟩) | (go_at_call 10; (with_reducible refine (made_Roll.calls A0 c0 L L 0 w _ (pw_below_drewN (Below.refl w.heap.size w) nq0) HR0.out HC0.out rfl).mono ?_); rintro e w1 ⟨g, rfl, hi, hb, -⟩; have M1 := Aside0.mk (show Bw w w1 g L 0 (.slice none 0 0) [] (.slice none 0 0) [] from ⟨hi, hb, Kd.R_nil _ _ _ _ _, Kd.R_nil _ _ _ _ _⟩); clear hi hb) | (go_at_call 11; (with_reducible refine (made_Dice_Next.calls g L 0 8 n0 p1 w _ (Bw.dice (by repeat (first | exact M1.out | apply Bw.alloc | apply Bw.drewN | apply Bw.drew))) (Bw.bel (by repeat (first | exact M1.out | apply Bw.alloc | apply Bw.drewN | apply Bw.drew))) HN0.out).mono ?_); rintro e w2 ⟨rfl, hi, hb, hk⟩; have M2 := Aside0.mk (Bw.throw (by repeat (first | exact M1.out | apply Bw.alloc | apply Bw.drewN | apply Bw.drew)) hi hb hk); clear hi hb hk))
  go_loopg [8, 9, 10] 9 (fun m v8 v9 v10 w' => ∃ (ls : List S32) (n : Nat) (p : Int), v10 = .int .i64 n ∧ n ≤ m ∧ n + ls.length ≤ 8 ∧ 1 ≤ n + ls.length ∧ Aside0 (∀ r ∈ ls, Rok r) ∧ Aside0 (DiceOk L p) ∧ Aside0 (Bw w w' g L p v8 (allB ls) v9 ls))
  case atStart => exact ⟨[], n1, p1, (by rw [← hn1, ← hw1]), (by omega), (by simp; omega), (by simp; omega), ⟨fun r h => by simp at h⟩, HD1, M2⟩
  case round =>
    clear M2
    obtain ⟨ls, n, p, rfl, hm, h8, h1, HOK, HD, M⟩ := hrel
    obtain ⟨Ab, cb, rfl⟩ := Kd.R_slice M.out.rb
    obtain ⟨Al, cl, rfl⟩ := Kd.R_slice M.out.rl
    have HLEN := Aside0.mk (allB_len ls)
    obtain ⟨BB, hBB⟩ : ∃ x, allB ls = x := ⟨_, rfl⟩
    rw [hBB] at M HLEN ⊢
    have HBB := Aside0.mk hBB
    clear hBB
    by_cases hn : 0 < n
    · obtain ⟨m, rfl⟩ : ∃ q, gk = q + 1 := ⟨gk - 1, by omega⟩
      have hn2 : (0 : Int) < (n : Int) := by omega
      obtain ⟨q1, p3, hq1, q1a, q1b, hd3⟩ := next_ok HD.out 5 (by omega) (by omega)
      obtain ⟨q2, p4, hq2, q2a, q2b, hd4⟩ := next_ok hd3 400 (by omega) (by omega)
      obtain ⟨q3, p5, hq3, q3a, q3b, hd5⟩ := next_ok hd4 4 (by omega) (by omega)
      obtain ⟨q4, p6, hq4, q4a, q4b, hd6⟩ := next_ok hd5 100000 (by omega) (by omega)
      have hrv : rvB (1 + q1) q2 q3 q4 = true := rvB_iff.2 ⟨⟨by omega, by omega⟩, ⟨by omega, by omega⟩, ⟨by omega, by split <;> omega⟩, ⟨by omega, by omega⟩⟩
      have HOK2 := Aside0.mk (show ∀ r ∈ ls ++ [(⟨1 + q1, q2, q3, q4⟩ : S32)], Rok r from fun r hr => by
            rcases List.mem_append.1 hr with hr | hr
            · exact HOK.out r hr
            · rw [List.mem_singleton.1 hr]; exact hrv)
      have HBF := Aside0.mk (bytes_f 50 (by omega) (1 + q1) q2 q3 q4)
      rw [if_pos hrv] at HBF
      have hw : wrap64 (1 + q1) = 1 + q1 := by unfold wrap64; omega
      have sq : IntKind.i64.wrap (1 + q1) = 1 + q1 := IntWalk.i64_in _ (by omega)
      have hlen : (bytesF (1 + q1) q2 q3 q4).length = 32 := bytes_len _ _ _ _
      obtain ⟨RB, hRB⟩ : ∃ x, bytesF (1 + q1) q2 q3 q4 = x := ⟨_, rfl⟩
      rw [hRB] at HBF hlen
      have HRB := Aside0.mk hRB
      have HLN := Aside0.mk hlen
      have hne : ((RB.length : Int) != 32) = false := by rw [hlen]; rfl
      have Q1 := Aside0.mk hq1
      have Q2 := Aside0.mk hq2
      have Q3 := Aside0.mk hq3
      have Q4 := Aside0.mk hq4
      have D6 := Aside0.mk hd6
      clear hq1 hq2 hq3 hq4 hd3 hd4 hd5 hd6 hrv hRB hlen hw
      go_upto_region 10 with (first | (go_at_call 11; (with_reducible refine (made_Dice_Next.calls g L p 5 q1 p3 w _ (Bw.dice (by repeat (first | exact M.out | apply Bw.alloc | apply Bw.drewN | apply Bw.drew))) (Bw.bel (by repeat (first | exact M.out | apply Bw.alloc | apply Bw.drewN | apply Bw.drew))) Q1.out).mono ?_); rintro e w3 ⟨rfl, hi, hb, hk⟩; have M3 := Aside0.mk (Bw.throw (by repeat (first | exact M.out | apply Bw.alloc | apply Bw.drewN | apply Bw.drew)) hi hb hk); clear hi hb hk) | (go_at_call 11; (with_reducible refine (made_Dice_Next.calls g L p3 400 q2 p4 w _ (Bw.dice (by repeat (first | exact M3.out | apply Bw.alloc | apply Bw.drewN | apply Bw.drew))) (Bw.bel (by repeat (first | exact M3.out | apply Bw.alloc | apply Bw.drewN | apply Bw.drew))) Q2.out).mono ?_); rintro e w4 ⟨rfl, hi, hb, hk⟩; have M4 := Aside0.mk (Bw.throw (by repeat (first | exact M3.out | apply Bw.alloc | apply Bw.drewN | apply Bw.drew)) hi hb hk); clear hi hb hk) | (go_at_call 11; (with_reducible refine (made_Dice_Next.calls g L p4 4 q3 p5 w _ (Bw.dice (by repeat (first | exact M4.out | apply Bw.alloc | apply Bw.drewN | apply Bw.drew))) (Bw.bel (by repeat (first | exact M4.out | apply Bw.alloc | apply Bw.drewN | apply Bw.drew))) Q3.out).mono ?_); rintro e w5 ⟨rfl, hi, hb, hk⟩; have M5 := Aside0.mk (Bw.throw (by repeat (first | exact M4.out | apply Bw.alloc | apply Bw.drewN | apply Bw.drew)) hi hb hk); clear hi hb hk) | (go_at_call 11; (with_reducible refine (made_Dice_Next.calls g L p5 100000 q4 p6 w _ (Bw.dice (by repeat (first | exact M5.out | apply Bw.alloc | apply Bw.drewN | apply Bw.drew))) (Bw.bel (by repeat (first | exact M5.out | apply Bw.alloc | apply Bw.drewN | apply Bw.drew))) Q4.out).mono ?_); rintro e w6 ⟨rfl, hi, hb, hk⟩; have M6 := Aside0.mk (Bw.throw (by repeat (first | exact M5.out | apply Bw.alloc | apply Bw.drewN | apply Bw.drew)) hi hb hk); clear hi hb hk))
      have hbr := Aside0.mk (blk_new w6 (Obj.cells #[Value.int .i64 (1 + q1), Value.int .i64 q2, Value.int .i64 q3, Value.int .i64 q4] 32))
      have MX := Aside0.mk (Bw.alloc (by repeat (first | exact M6.out | apply Bw.alloc | apply Bw.drewN | apply Bw.drew)) (Obj.cells #[Value.int .i64 (1 + q1), Value.int .i64 q2, Value.int .i64 q3, Value.int .i64 q4] 32))
      have NLK := Aside0.mk (show some w6.heap.size ≠ (Value.slice Al ls.length cl).ownBlock from fun q => absurd (Kd.R_lt M6.out.rl _ q.symm) (Nat.lt_irrefl _))
      generalize w6.alloc (Obj.cells #[Value.int .i64 (1 + q1), Value.int .i64 q2, Value.int .i64 q3, Value.int .i64 q4] 32) = W6 at hbr MX ⊢
      generalize w6.heap.size = rk at hbr NLK ⊢
      obtain ⟨x0, _, x1, _, x2, _, x3, _⟩ := box4 hbr.out
      clear M M3 M4 M5 M6
      go_upto_region 13 with (go_at_call 13; (with_reducible refine (controlroom_Bytes.calls 50 _ _ _ _ _ _ _ HBF.out).mono ?_); rintro e w7 ⟨v6, rfl, hr, hb⟩; obtain ⟨A6, c6, rfl⟩ := Kd.R_slice hr; have M7 := Aside0.mk (MX.out.below hb); have HR6 := Aside0.mk hr; have HX7 := Aside0.mk (blk_below hbr.out hb); clear hr hb)
      clear x0 x1 x2 x3
      have M0 := M7.out.drew
      have X0 := blk_drew HX7.out
      have Y0 := Kd.R_drew HR6.out
      refine start_ (n := 9) (S := (fun w' => w'.cell? ⟨rk, 0, none⟩ = some (.int .i64 (1 + q1)) ∧ w'.cell? ⟨rk, 1, none⟩ = some (.int .i64 q2) ∧ w'.cell? ⟨rk, 2, none⟩ = some (.int .i64 q3) ∧ w'.cell? ⟨rk, 3, none⟩ = some (.int .i64 q4))) (ds := []) #[false, false, false, false, false, false, false, false, false] (by kernel_rfl) rfl rfl ⟨(blk_cell X0 0).trans rfl, (blk_cell X0 1).trans rfl, (blk_cell X0 2).trans rfl, (blk_cell X0 3).trans rfl⟩ (fun hHeld => ?_)
      refine pure_ (i := 0) (N := some 54) (v := ?_) (a' := ?_) #[true, false, false, false, false, false, false, false, false] rfl rfl (by kernel_rfl) (fun _ _ _ h => h) (Or.inl ⟨by rfl, ?_⟩) ?_ ?_
      rotate_left; · intro w'; go_simp; with_reducible rfl
      rotate_left; · simp only [Act.put, List.setIfInBounds_toArray, List.set_cons_zero, List.set_cons_succ, i64_w, i32_w]; rfl
      refine pure_ (i := 1) (N := some 55) (v := ?_) (a' := ?_) #[true, true, false, false, false, false, false, false, false] rfl rfl (by kernel_rfl) (fun _ _ _ h => h) (Or.inl ⟨by rfl, ?_⟩) ?_ ?_
      rotate_left; · intro w'; go_simp; with_reducible rfl
      rotate_left; · simp only [Act.put, List.setIfInBounds_toArray, List.set_cons_zero, List.set_cons_succ, i64_w, i32_w]; rfl
      refine pure_ (i := 3) (N := some 57) (v := ?_) (a' := ?_) #[true, true, false, true, false, false, false, false, false] rfl rfl (by kernel_rfl) (fun _ _ _ h => h) (Or.inl ⟨by rfl, ?_⟩) ?_ ?_
      rotate_left; · intro w'; go_simp; with_reducible rfl
      rotate_left; · simp only [Act.put, List.setIfInBounds_toArray, List.set_cons_zero, List.set_cons_succ, i64_w, i32_w]; rfl
      refine take_ (i := 4) (N := some 58) (v := ?_) (a' := ?_) #[true, true, false, true, true, false, false, false, false] rfl rfl (by kernel_rfl) (fun _ _ _ h => h) (Or.inl ⟨by rfl, ?_⟩) hHeld ?_ ?_
      rotate_left; · rintro w' ⟨s0, s1, s2, s3⟩; go_simp; with_reducible rfl
      rotate_left; · simp only [Act.put, List.setIfInBounds_toArray, List.set_cons_zero, List.set_cons_succ, i64_w, i32_w]; rfl
      clear hHeld
      refine join_ (σ := Value × Nat × Value) 2 #[true, true, true, true, true, true, true, false, false] (fun B => [(56, B.1), (59, .slice (some ⟨B.2.1, 0, none⟩) 1 1), (60, B.2.2)]) (fun B w' => Bw w w' g L p6 B.1 (BB ++ RB) B.2.2 (ls ++ [(⟨1 + q1, q2, q3, q4⟩ : S32)])) ?_ ?_
      · rintro ⟨vB, B, vL⟩ W9 M9
        dsimp only at M9
        simp only [putAll, Act.put, List.setIfInBounds_toArray, List.set_cons_zero, List.set_cons_succ]
        refine pure_ (i := 7) (N := some 8) (v := ?_) (a' := ?_) #[true, true, true, true, true, true, true, true, false] rfl rfl (by kernel_rfl) (fun _ _ _ h => h) (Or.inl ⟨by rfl, ?_⟩) ?_ ?_
        rotate_left; · intro w'; go_simp; with_reducible rfl
        rotate_left; · simp only [Act.put, List.setIfInBounds_toArray, List.set_cons_zero, List.set_cons_succ, i64_w, i32_w]; rfl
        refine pure_ (i := 8) (N := some 9) (v := ?_) (a' := ?_) #[true, true, true, true, true, true, true, true, true] rfl rfl (by kernel_rfl) (fun _ _ _ h => h) (Or.inl ⟨by rfl, ?_⟩) ?_ ?_
        rotate_left; · intro w'; go_simp; with_reducible rfl
        rotate_left; · simp only [Act.put, List.setIfInBounds_toArray, List.set_cons_zero, List.set_cons_succ, i64_w, i32_w]; rfl
        refine done_ (by kernel_rfl) ?_
        have M10 := Aside0.mk M9
        clear M9
        go_wp2_with fail
        go_roundg m
        case measure => omega
        case rel => exact ⟨ls ++ [(⟨1 + q1, q2, q3, q4⟩ : S32)], n - 1, p6, (by first | go_num | (congr 1; first | omega | (unfold wrap64; omega))), by omega, by simp; omega, by simp; omega, HOK2, D6, ⟨by rw [allB_append, HBB.out, show allB [(⟨1 + q1, q2, q3, q4⟩ : S32)] = RB by rw [← HRB.out]; simp [allB, recB]]; exact (by repeat (first | exact M10.out | apply Bw.alloc | apply Bw.drewN | apply Bw.drew))⟩⟩
      intro J9
      refine two_ (i := 2) (j := 5) (Ni := some 56) (Nj := some 59) #[true, true, true, true, true, false, false, false, false] #[true, true, false, true, true, true, false, false, false] rfl rfl rfl rfl (by kernel_rfl) (by decide) (by decide) (fun K hK => ?_) (fun K hK => ?_)
      · refine Kd.R_append_rows_step kb (w0 := w) w.heap.size (by rfl) (.tmp 54) (.tmp 55) 38 5 (.int .u8 0) 1 rfl Try.underlying38 info5 rfl (by decide) (by omega) (.slice Ab BB.length cb) BB RB A6 RB.length c6 (fun _ => True) (fun _ => False) rfl rfl M0.rb (Kd.R_reads' Y0).2.2 (fun _ _ h => h) (fun _ h => h.elim) (fun _ _ => trivial) M0.bel M0.bel.size (by have h1 := HLEN.out; have h2 := HLN.out; omega) ?_
        intro vB w8 ho hb hg hat
        have M1 := M0.appB ho hb hg
        have X1 := blk_grown X0 hg (Kd.R_ne M0.rb X0 (by decide))
        clear ho hb hg hat
        refine hK.out _ _ ⟨(blk_cell X1 0).trans rfl, (blk_cell X1 1).trans rfl, (blk_cell X1 2).trans rfl, (blk_cell X1 3).trans rfl⟩ (fun hHeld => ?_)
        clear hK K hHeld
        refine norm_ (a' := ?_) ?_ ?_
        rotate_left
        · show Act.put _ (some 56) _ = _; simp only [Act.put, List.setIfInBounds_toArray, List.set_cons_zero, List.set_cons_succ, i64_w, i32_w]; rfl
        refine one_ (i := 5) (N := some 59) #[true, true, true, true, true, true, false, false, false] rfl rfl (by kernel_rfl) (by decide) (fun K hK => ?_)
        refine lit_step (by rfl) (n := 1) (cs := #[.int .i64 (1 + q1), .int .i64 q2, .int .i64 q3, .int .i64 q4]) (t := 32) (by first | (go_simp; done) | (go_simp; rfl)) ?_
        intro B eB W2 hB hb
        have M2 := M1.below hb
        have X2 := blk_below X1 hb
        clear eB hb
        refine hK.out _ _ ⟨(blk_cell X2 0).trans rfl, (blk_cell X2 1).trans rfl, (blk_cell X2 2).trans rfl, (blk_cell X2 3).trans rfl⟩ (fun hHeld => ?_)
        clear hK K hHeld
        refine norm_ (a' := ?_) ?_ ?_
        rotate_left
        · show Act.put _ (some 59) _ = _; simp only [Act.put, List.setIfInBounds_toArray, List.set_cons_zero, List.set_cons_succ, i64_w, i32_w]; rfl
        refine one_ (i := 6) (N := some 60) #[true, true, true, true, true, true, true, false, false] rfl rfl (by kernel_rfl) (by decide) (fun K hK => ?_)
        refine Kd.R_append_rows_step k32 (w0 := w) w.heap.size (by rfl) (.tmp 57) (.tmp 59) 27 32 (.agg #[(.int .i64 0), (.int .i64 0), (.int .i64 0), (.int .i64 0)]) 32 rfl Try.underlying27 info32 rfl (by decide) (by omega) (.slice Al ls.length cl) ls [(⟨1 + q1, q2, q3, q4⟩ : S32)] (some ⟨B, 0, none⟩) 1 1 (fun _ => True) (fun _ => False) rfl rfl M2.rl (rec_read hB) (fun _ _ h => h) (fun _ h => h.elim) (fun _ _ => trivial) M2.bel M2.bel.size (by omega) ?_
        intro vL w8 ho hb hg hat
        have M3 := M2.appL ho hb hg
        have X3 := blk_grown X2 hg NLK.out
        clear ho hb hg hat
        refine hK.out _ _ ⟨(blk_cell X3 0).trans rfl, (blk_cell X3 1).trans rfl, (blk_cell X3 2).trans rfl, (blk_cell X3 3).trans rfl⟩ (fun hHeld => ?_)
        clear hK K hHeld
        refine norm_ (a' := ?_) ?_ ?_
        rotate_left
        · show Act.put _ (some 60) _ = _; simp only [Act.put, List.setIfInBounds_toArray, List.set_cons_zero, List.set_cons_succ, i64_w, i32_w]; rfl
        exact norm_ (by first | (simp only [putAll, Act.put, List.setIfInBounds_toArray, List.set_cons_zero, List.set_cons_succ]; done) | (simp only [putAll, Act.put, List.setIfInBounds_toArray, List.set_cons_zero, List.set_cons_succ]; rfl)) (J9 (vB, B, vL) _ M3)
      · refine lit_step (by rfl) (n := 1) (cs := #[.int .i64 (1 + q1), .int .i64 q2, .int .i64 q3, .int .i64 q4]) (t := 32) (by first | (go_simp; done) | (go_simp; rfl)) ?_
        intro B eB W2 hB hb
        have M1 := M0.below hb
        have X1 := blk_below X0 hb
        have Y1 := Kd.R_below Y0 hb
        clear eB hb
        refine hK.out _ _ ⟨(blk_cell X1 0).trans rfl, (blk_cell X1 1).trans rfl, (blk_cell X1 2).trans rfl, (blk_cell X1 3).trans rfl⟩ (fun hHeld => ?_)
        clear hK K hHeld
        refine norm_ (a' := ?_) ?_ ?_
        rotate_left
        · show Act.put _ (some 59) _ = _; simp only [Act.put, List.setIfInBounds_toArray, List.set_cons_zero, List.set_cons_succ, i64_w, i32_w]; rfl
        refine one_ (i := 2) (N := some 56) #[true, true, true, true, true, true, false, false, false] rfl rfl (by kernel_rfl) (by decide) (fun K hK => ?_)
        refine Kd.R_append_rows_step kb (w0 := w) w.heap.size (by rfl) (.tmp 54) (.tmp 55) 38 5 (.int .u8 0) 1 rfl Try.underlying38 info5 rfl (by decide) (by omega) (.slice Ab BB.length cb) BB RB A6 RB.length c6 (fun _ => True) (fun _ => False) rfl rfl M1.rb (Kd.R_reads' Y1).2.2 (fun _ _ h => h) (fun _ h => h.elim) (fun _ _ => trivial) M1.bel M1.bel.size (by have h1 := HLEN.out; have h2 := HLN.out; omega) ?_
        intro vB w8 ho hb hg hat
        have M2 := M1.appB ho hb hg
        have X2 := blk_grown X1 hg (Kd.R_ne M1.rb X1 (by decide))
        have hB2 := blk_grown hB hg (Kd.R_ne M1.rb hB (by decide))
        clear ho hb hg hat
        refine hK.out _ _ ⟨(blk_cell X2 0).trans rfl, (blk_cell X2 1).trans rfl, (blk_cell X2 2).trans rfl, (blk_cell X2 3).trans rfl⟩ (fun hHeld => ?_)
        clear hK K hHeld
        refine norm_ (a' := ?_) ?_ ?_
        rotate_left
        · show Act.put _ (some 56) _ = _; simp only [Act.put, List.setIfInBounds_toArray, List.set_cons_zero, List.set_cons_succ, i64_w, i32_w]; rfl
        refine one_ (i := 6) (N := some 60) #[true, true, true, true, true, true, true, false, false] rfl rfl (by kernel_rfl) (by decide) (fun K hK => ?_)
        refine Kd.R_append_rows_step k32 (w0 := w) w.heap.size (by rfl) (.tmp 57) (.tmp 59) 27 32 (.agg #[(.int .i64 0), (.int .i64 0), (.int .i64 0), (.int .i64 0)]) 32 rfl Try.underlying27 info32 rfl (by decide) (by omega) (.slice Al ls.length cl) ls [(⟨1 + q1, q2, q3, q4⟩ : S32)] (some ⟨B, 0, none⟩) 1 1 (fun _ => True) (fun _ => False) rfl rfl M2.rl (rec_read hB2) (fun _ _ h => h) (fun _ h => h.elim) (fun _ _ => trivial) M2.bel M2.bel.size (by omega) ?_
        intro vL w8 ho hb hg hat
        have M3 := M2.appL ho hb hg
        have X3 := blk_grown X2 hg NLK.out
        clear ho hb hg hat
        refine hK.out _ _ ⟨(blk_cell X3 0).trans rfl, (blk_cell X3 1).trans rfl, (blk_cell X3 2).trans rfl, (blk_cell X3 3).trans rfl⟩ (fun hHeld => ?_)
        clear hK K hHeld
        refine norm_ (a' := ?_) ?_ ?_
        rotate_left
        · show Act.put _ (some 60) _ = _; simp only [Act.put, List.setIfInBounds_toArray, List.set_cons_zero, List.set_cons_succ, i64_w, i32_w]; rfl
        exact norm_ (by first | (simp only [putAll, Act.put, List.setIfInBounds_toArray, List.set_cons_zero, List.set_cons_succ]; done) | (simp only [putAll, Act.put, List.setIfInBounds_toArray, List.set_cons_zero, List.set_cons_succ]; rfl)) (J9 (vB, B, vL) _ M3)
    · obtain rfl : n = 0 := by omega
      have hpos : 0 < BB.length := by rw [HLEN.out]; omega
      obtain ⟨gb, cap, eb, hgb0, hgb1, -⟩ := Kd.R_form M.out.rb hpos
      cases eb
      have hBl : BB.length ≤ 256 := by rw [HLEN.out]; omega
      have HBT := Aside0.mk (show Byt BB by rw [← HBB.out]; exact allB_byt ls)
      have HRD := Aside0.mk (show readF BB = ls by have := readF_all (rest := []) HOK.out (by omega) (by simp); rw [List.append_nil, HBB.out] at this; exact this)
      obtain ⟨k, hk, k0, k1⟩ := mod_ok at_ (BB.length : Int) (by omega) (by omega)
      obtain ⟨k, rfl⟩ : ∃ q : Nat, k = (q : Int) := ⟨k.toNat, by omega⟩
      obtain ⟨j, hj, j0, j1⟩ := mod_ok bit 8 (by omega) (by omega)
      obtain ⟨j, rfl⟩ : ∃ q : Nat, j = (q : Int) := ⟨j.toNat, by omega⟩
      have HK := Aside0.mk hk
      have HJ := Aside0.mk hj
      clear hk hj hpos hgb0 hgb1
      go_upto_region 15 with (go_at_call 14; (with_reducible refine (read_at (some ⟨gb, 0, none⟩) cb BB.length BB ls _ (Kd.R_reads' (Bw.rb (by repeat (first | exact M.out | apply Bw.alloc | apply Bw.drewN | apply Bw.drew)))).2.2 (Kd.R_reads' M.out.rb).2.1 HBT.out (by omega) rfl HRD.out).mono ?_); rintro e w8 ⟨A8, c8, rfl, hr, hb⟩; have M8 := Aside0.mk (Bw.below (by repeat (first | exact M.out | apply Bw.alloc | apply Bw.drewN | apply Bw.drew)) hb); have R8 := Aside0.mk hr; clear hr hb)
      go_upto_region 16 with (go_at_call 15; (with_reducible refine (made_Mod.calls _ _ _ _ HK.out).mono ?_); rintro e w9 ⟨rfl, hd⟩; obtain ⟨n9, rfl⟩ := hd.out)
      have M9 := Aside0.mk (M8.out.drewN n9)
      have R9 := Aside0.mk (Kd.R_drewN R8.out n9)
      generalize w8.drewN n9 = W9 at M9 R9 ⊢
      clear M8 R8
      obtain ⟨e1, e2⟩ := Kd.R_cell (0 : Int) M9.out.rb (k : Int) (by omega) (by omega)
      rw [Int.toNat_natCast] at e1 e2
      have E1 : W9.cell? ⟨gb, k, none⟩ = some (.int .u8 (rd BB (k : Int))) := e1
      clear e1
      have k2 : (k : Int) < BB.length := by omega
      have s1 : IntKind.u64.wrap (j : Int) = j := by rw [IntKind.wrap_u64]; omega
      refine start_ (n := 11) (S := (fun w' => w'.cell? ⟨gb, k, none⟩ = some (.int .u8 (rd BB (k : Int))))) (ds := [10]) #[false, false, false, false, false, false, false, false, false, false, false] (by kernel_rfl) rfl rfl E1 (fun hHeld => ?_)
      refine pure_ (i := 0) (N := some 70) (v := ?_) (a' := ?_) #[true, false, false, false, false, false, false, false, false, false, false] rfl rfl (by kernel_rfl) (fun _ _ _ h => h) (Or.inl ⟨by rfl, ?_⟩) ?_ ?_
      rotate_left; · intro w'; go_simp; with_reducible rfl
      rotate_left; · simp only [Act.put, List.setIfInBounds_toArray, List.set_cons_zero, List.set_cons_succ, i64_w, i32_w]; rfl
      refine pure_ (i := 1) (N := some 71) (v := ?_) (a' := ?_) #[true, true, false, false, false, false, false, false, false, false, false] rfl rfl (by kernel_rfl) (fun _ _ _ h => h) (Or.inl ⟨by rfl, ?_⟩) ?_ ?_
      rotate_left; · intro w'; go_simp; with_reducible rfl
      rotate_left; · simp only [Act.put, List.setIfInBounds_toArray, List.set_cons_zero, List.set_cons_succ, i64_w, i32_w]; rfl
      refine pure_ (i := 2) (N := some 72) (v := ?_) (a' := ?_) #[true, true, true, false, false, false, false, false, false, false, false] rfl rfl (by kernel_rfl) (fun _ _ _ h => h) (Or.inl ⟨by rfl, ?_⟩) ?_ ?_
      rotate_left; · intro w'; go_simp; with_reducible rfl
      rotate_left; · simp only [Act.put, List.setIfInBounds_toArray, List.set_cons_zero, List.set_cons_succ, i64_w, i32_w]; rfl
      refine take_ (i := 3) (N := some 73) (v := ?_) (a' := ?_) #[true, true, true, true, false, false, false, false, false, false, false] rfl rfl (by kernel_rfl) (fun _ _ _ h => h) (Or.inl ⟨by rfl, ?_⟩) hHeld ?_ ?_
      rotate_left; · intro w' s0; go_simp; with_reducible rfl
      rotate_left; · simp only [Act.put, List.setIfInBounds_toArray, List.set_cons_zero, List.set_cons_succ, i64_w, i32_w]; rfl
      refine pure_ (i := 4) (N := some 74) (v := ?_) (a' := ?_) #[true, true, true, true, true, false, false, false, false, false, false] rfl rfl (by kernel_rfl) (fun _ _ _ h => h) (Or.inl ⟨by rfl, ?_⟩) ?_ ?_
      rotate_left; · intro w'; go_simp; with_reducible rfl
      rotate_left; · simp only [Act.put, List.setIfInBounds_toArray, List.set_cons_zero, List.set_cons_succ, i64_w, i32_w]; rfl
      clear hHeld
      refine one_ (i := 5) (N := some 75) #[true, true, true, true, true, true, false, false, false, false, false] rfl rfl (by kernel_rfl) (by decide) (fun K hK => ?_)
      refine goes_ Try.func15 (by kernel_rfl) rfl #[.int .i64 bit, .int .i64 8] (by rfl) rfl rfl (by simp only [List.map_toArray, List.map_cons, List.map_nil]; rfl) ?_
      refine (made_Mod.calls _ _ _ _ HJ.out).mono ?_
      rintro e W10 ⟨rfl, hd⟩
      obtain ⟨n10, rfl⟩ := hd.out
      refine ⟨_, rfl, ?_⟩
      refine hK.out _ _ E1 (fun hHeld => ?_)
      clear hK K hHeld
      refine norm_ (a' := ?_) ?_ ?_
      rotate_left
      · show Act.put _ (some 75) _ = _; simp only [Act.put, List.setIfInBounds_toArray, List.set_cons_zero, List.set_cons_succ, i64_w, i32_w]; rfl
      refine pure_ (i := 6) (N := some 76) (v := ?_) (a' := ?_) #[true, true, true, true, true, true, true, false, false, false, false] rfl rfl (by kernel_rfl) (fun _ _ _ h => h) (Or.inl ⟨by rfl, ?_⟩) ?_ ?_
      rotate_left; · intro w'; go_simp; with_reducible rfl
      rotate_left; · simp only [Act.put, List.setIfInBounds_toArray, List.set_cons_zero, List.set_cons_succ, i64_w, i32_w]; rfl
      refine pure_ (i := 7) (N := some 77) (v := ?_) (a' := ?_) #[true, true, true, true, true, true, true, true, false, false, false] rfl rfl (by kernel_rfl) (fun _ _ _ h => h) (Or.inl ⟨by rfl, ?_⟩) ?_ ?_
      rotate_left; · intro w'; go_simp; with_reducible rfl
      rotate_left; · simp only [Act.put, List.setIfInBounds_toArray, List.set_cons_zero, List.set_cons_succ, i64_w, i32_w]; rfl
      refine pure_ (i := 8) (N := some 78) (v := ?_) (a' := ?_) #[true, true, true, true, true, true, true, true, true, false, false] rfl rfl (by kernel_rfl) (fun _ _ _ h => h) (Or.inl ⟨by rfl, ?_⟩) ?_ ?_
      rotate_left; · intro w'; go_simp; with_reducible rfl
      rotate_left; · simp only [Act.put, List.setIfInBounds_toArray, List.set_cons_zero, List.set_cons_succ, i64_w, i32_w]; rfl
      have hp2 : ∀ q : Nat, q < 8 → 0 < IntKind.u8.wrap ((2 : Int) ^ q) ∧ IntKind.u8.wrap ((2 : Int) ^ q) < 256 := by decide
      have hyb := xor_byt (rd BB (k : Int)) (IntKind.u8.wrap (2 ^ j))
      have hyn := xor_ne (HBT.out.at_ (i := k) (by omega)) (hp2 j (by omega))
      clear hp2
      generalize bits BinOp.xor IntKind.u8 (rd BB (k : Int)) (IntKind.u8.wrap (2 ^ j)) = y at hyb hyn ⊢
      have HRD2 := Aside0.mk (show readF (BB.set k y) = ls.take (k / 32) by rw [← HBB.out]; exact read_flip HOK.out (by omega) (by have := HLEN.out; omega) hyb (by rw [HBB.out]; exact hyn))
      have HBT2 := Aside0.mk (HBT.out.set (i := k) hyb)
      have HTL := Aside0.mk (show (ls.take (k / 32)).length = k / 32 by rw [List.length_take]; have := HLEN.out; omega)
      clear hyb hyn
      refine pure_ (i := 9) (N := some 79) (v := ?_) (a' := ?_) #[true, true, true, true, true, true, true, true, true, true, false] rfl rfl (by kernel_rfl) (fun _ _ _ h => h) (Or.inl ⟨by rfl, ?_⟩) ?_ ?_
      rotate_left; · intro w'; go_simp; with_reducible rfl
      rotate_left; · simp only [Act.put, List.setIfInBounds_toArray, List.set_cons_zero, List.set_cons_succ, i64_w, i32_w]; rfl
      refine last_ (i := 10) (N := none) #[true, true, true, true, true, true, true, true, true, true, true] rfl rfl (by kernel_rfl) (by decide) (fun K hK => ?_)
      refine skip_ (w1 := ?_) (by rfl) rfl ?_ ?_
      rotate_left
      · go_simp; rfl
      refine hK.out _ _ ?_
      clear hK K
      refine done_ (by kernel_rfl) ?_
      have MA := Aside0.mk (Bw.setB (M9.out.drewN (1 + n10)) k y)
      have RA := Aside0.mk (R_setT (t := 5) (g := gb) (j := k) (u := .int .u8 y) (Kd.R_drewN R9.out (1 + n10)) (Kd.R_typed (M9.out.drewN (1 + n10)).rb gb rfl).choose_spec (by decide))
      generalize (W9.drewN (1 + n10)).setCell ⟨gb, k, none⟩ (.int .u8 y) = WA at MA RA ⊢
      clear M9 R9 E1 e2 M
      have hsl : (BB.set k y).length = BB.length := List.length_set
      have HSL := Aside0.mk hsl
      have HC2 := Aside0.mk (show Kd.C (Kd.int .u8) WA (some ⟨gb, 0, none⟩) (BB.set k y).length (BB.set k y) from (Kd.R_reads' MA.out.rb).2.2)
      have HL2 := Aside0.mk (show (BB.set k y).length ≤ cb by rw [hsl]; have := (Kd.R_reads' MA.out.rb).2.1; exact this)
      clear hsl
      obtain ⟨lt, hlt⟩ : ∃ x, ls.take (k / 32) = x := ⟨_, rfl⟩
      rw [hlt] at HRD2 HTL
      have HLT := Aside0.mk hlt
      clear hlt
      go_upto_region 18 with (go_at_call 14; (with_reducible refine (read_at (some ⟨gb, 0, none⟩) cb BB.length (BB.set k y) lt _ HC2.out HL2.out HBT2.out (by rw [HSL.out]; omega) HSL.out HRD2.out).mono ?_); rintro e w11 ⟨A11, c11, rfl, hr, hb⟩; have MB := Aside0.mk (MA.out.below hb); have RB8 := Aside0.mk (Kd.R_below RA.out hb); have R11 := Aside0.mk hr; clear hr hb)
      clear MA RA HC2 HL2
      obtain ⟨q, hq⟩ : ∃ q, k / 32 = q := ⟨_, rfl⟩
      have hql : q < ls.length := by have := HLEN.out; omega
      have hcl := (Kd.R_reads' MB.out.rl).2.1
      rw [hq] at HTL HLT
      have htd : Int.tdiv (k : Int) 32 = (q : Int) := by rw [← hq]; rfl
      have hw1 : IntKind.i64.wrap (q : Int) = q := IntWalk.i64_in _ (by omega)
      have hw2 : IntKind.i64.wrap ((q : Int) * 32) = q * 32 := IntWalk.i64_in _ (by omega)
      have hb1 : ((32 * (ls.length : Int)) == (BB.length : Int)) = true := by have := HLEN.out; simp only [beq_iff_eq]; omega
      have hb2 : ((32 * (lt.length : Int)) == ((q : Int) * 32)) = true := by have := HTL.out; simp only [beq_iff_eq]; omega
      have hqc : (q : Int) ≤ cl := by omega
      have hq0 : (0 : Int) ≤ q := by omega
      have HQ := Aside0.mk hql
      have HTK := Aside0.mk (fun (W : World) (h : Kd.C k32 W Al ls.length ls) => Kd.C_take h (show q ≤ ls.length by omega))
      have HZ := Aside0.mk (show ls.length ≤ 1000000000 by omega)
      clear hq hql hcl
      go_wp2_with (first | (go_at_call 9; (with_reducible refine (awake_calls _).mono ?_); rintro e w12 ⟨rfl, hb⟩; have MC := Aside0.mk (MB.out.below hb); have RC8 := Aside0.mk (Kd.R_below RB8.out hb); have RC11 := Aside0.mk (Kd.R_below R11.out hb); clear hb) | (go_at_call 16; (with_reducible refine (same_at A8 c8 ls.length Al cl ls.length ls _ (Kd.R_reads' RC8.out).2.2 (Kd.R_reads' RC8.out).2.1 (Kd.R_reads' MC.out.rl).2.2 (Kd.R_reads' MC.out.rl).2.1 rfl rfl HZ.out).mono ?_); rintro e w13 ⟨rfl, hd⟩; obtain ⟨n13, rfl⟩ := hd.out) | (go_at_call 16; (with_reducible refine (same_at A11 c11 lt.length Al cl q lt _ (Kd.C_drewN (Kd.R_reads' RC11.out).2.2 _) (Kd.R_reads' RC11.out).2.1 (by rw [← HLT.out]; exact Kd.C_drewN (HTK.out _ (Kd.R_reads' MC.out.rl).2.2) _) (by rw [HTL.out]; omega) rfl HTL.out (by rw [HTL.out]; have := HQ.out; omega)).mono ?_); rintro e w14 ⟨rfl, hd⟩; obtain ⟨n14, rfl⟩ := hd.out))
      go_ret
      exact ⟨rfl, (by repeat (first | exact MC.out.bel | apply below_drew1 | apply pw_below_drewN))⟩
end Go.Proofs.Ytgniegpeeaphlaa.HandA
