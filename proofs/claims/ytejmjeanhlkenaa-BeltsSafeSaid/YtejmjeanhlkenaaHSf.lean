/- The law that belts are safe whatever is tried, walked. -/
import Derived.Test.YtejmjeanhlkenaaHSw
import Derived.Test.YtejmjeanhlkenaaCP1
namespace Go.Proofs.Ytejmjeanhlkenaa.HandA
open Go.RowKit Go.Proofs.Ytejmjeanhlkenaa.PB Go.Proofs.YtejmjeanhlkenaaW.PrintWords Go.Proofs.YtejmjeanhlkenaaW.PrintLast Go.Proofs.YtejmjeanhlkenaaW.PrintMore
set_option linter.unusedVariables false
set_option linter.unusedSimpArgs false

set_option maxHeartbeats 16000000 in
set_option maxRecDepth 100000 in
theorem safe_calls (L : List Int) (A0 : Option Addr) (c0 : Nat) (w : World) (hr0 : Kd.C (Kd.int .i64) w A0 L.length L) (hc0 : L.length ≤ c0) :
    Calls Try.prog 6 #[.slice A0 L.length c0] w fun e w' => e = .returned (.bool true) ∧ Below w.heap.size w w' := by
  have HR0 := Aside0.mk hr0
  have HC0 := Aside0.mk hc0
  have hu34 := Try.underlying34
  have hu31 := Try.underlying31
  clear hr0 hc0
  by_cases hli : ¬ (L.length : Int) ≤ 400
  · have hlf : made_Light.f L = some false := by unfold made_Light.f; rw [decide_eq_false hli]
    go_enter Try.func6, Try.ntmps6
    go_wp2_with (first | (go_at_call 7; (with_reducible refine (made_Light.calls A0 c0 L false _ HR0.out HC0.out hlf).mono ?_); rintro e w0 ⟨rfl, ⟨nq0, rfl⟩⟩) | (go_at_call 8; (with_reducible refine (awake_calls _).mono ?_); rintro e w1 ⟨rfl, hb1⟩; have HB1 := Aside0.mk (below_step (pw_below_drewN (Below.refl w.heap.size w) nq0) hb1); clear hb1))
    go_ret
    exact ⟨rfl, (by repeat (first | exact HB1.out | apply below_drew1 | apply pw_below_drewN))⟩
  rw [Decidable.not_not] at hli
  have hlt : made_Light.f L = some true := by unfold made_Light.f; rw [decide_eq_true hli]
  obtain ⟨n0, p1, hn0, n0a, n0b, hd1⟩ := next_ok (DiceOk.zero hli) 5 (by omega) (by omega)
  have hw1 : wrap64 (1 + n0) = 1 + n0 := by unfold wrap64; omega
  obtain ⟨n1, hn1⟩ : ∃ q : Nat, 1 + n0 = (q : Int) := ⟨(1 + n0).toNat, by omega⟩
  have HN0 := Aside0.mk hn0
  have HD1 := Aside0.mk hd1
  clear hn0 hd1 hli
  go_enter Try.func6, Try.ntmps6
  go_wp2_with (first | (go_at_call 7; (with_reducible refine (made_Light.calls A0 c0 L true _ HR0.out HC0.out hlt).mono ?_); rintro e w0 ⟨rfl, ⟨nq0, rfl⟩⟩) | (go_at_call 9; (with_reducible refine (made_Roll.calls A0 c0 L L 0 w _ (pw_below_drewN (Below.refl w.heap.size w) nq0) HR0.out HC0.out rfl).mono ?_); rintro e w1 ⟨g, rfl, hi, hb, -⟩; have M1 := Aside0.mk (show Rw w w1 g L 0 (.slice none 0 0) [] from ⟨hi, hb, Kd.R_nil _ _ _ _ _⟩); clear hi hb) | (go_at_call 10; (with_reducible refine (made_Dice_Next.calls g L 0 5 n0 p1 w _ (Rw.dice (by repeat (first | exact M1.out | apply Rw.alloc | apply Rw.drewN | apply Rw.drew))) (Rw.bel (by repeat (first | exact M1.out | apply Rw.alloc | apply Rw.drewN | apply Rw.drew))) HN0.out).mono ?_); rintro e w2 ⟨rfl, hi, hb, hk⟩; have M2 := Aside0.mk (Rw.throw (by repeat (first | exact M1.out | apply Rw.alloc | apply Rw.drewN | apply Rw.drew)) hi hb hk); clear hi hb hk))
  go_loopg [4, 5] 7 (fun m v4 v5 w' => ∃ (ls : List S31) (n : Nat) (p : Int), v5 = .int .i64 n ∧ n ≤ m ∧ n + ls.length ≤ 6 ∧ 1 ≤ n + ls.length ∧ Aside0 (Grown ls) ∧ Aside0 (DiceOk L p) ∧ Aside0 (Rw w w' g L p v4 ls))
  case atStart => exact ⟨[], n1, p1, (by rw [← hn1, ← hw1]), (by omega), (by simp; omega), (by simp; omega), ⟨Grown.nil⟩, HD1, M2⟩
  case round =>
    clear M2
    obtain ⟨ls, n, p, rfl, hm, h6, h1, HG, HD, M⟩ := hrel
    obtain ⟨A, c, rfl⟩ := Kd.R_slice M.out.row
    by_cases hn : 0 < n
    · obtain ⟨m, rfl⟩ : ∃ q, gk = q + 1 := ⟨gk - 1, by omega⟩
      have hn2 : (0 : Int) < (n : Int) := by omega
      obtain ⟨q1, p3, hq1, qa, qb, hd3⟩ := next_ok HD.out ((ls.length : Int) + 1) (by omega) (by omega)
      obtain ⟨q2, p4, hq2, hmem, hd4⟩ := of_ok hd3 [5, 0, 20] (by simp) (by simp)
      have hq2r : 0 ≤ q2 ∧ q2 ≤ 20 := by simp at hmem; omega
      have hG2 : Grown (ls ++ [⟨q1 - 1, q2⟩]) := HG.out.push (show -1 ≤ q1 - 1 ∧ q1 - 1 < (ls.length : Int) by omega) hq2r
      have Q1 := Aside0.mk hq1
      have Q2 := Aside0.mk hq2
      have D4 := Aside0.mk hd4
      have G2 := Aside0.mk hG2
      clear hq1 hq2 hd3 hd4 hG2 hmem
      go_wp2_with (first | (go_at_call 10; (with_reducible refine (made_Dice_Next.calls g L p ((ls.length : Int) + 1) q1 p3 w _ (Rw.dice (by repeat (first | exact M.out | apply Rw.alloc | apply Rw.drewN | apply Rw.drew))) (Rw.bel (by repeat (first | exact M.out | apply Rw.alloc | apply Rw.drewN | apply Rw.drew))) Q1.out).mono ?_); rintro e w5 ⟨rfl, hi, hb, hk⟩; have M5 := Aside0.mk (Rw.throw (by repeat (first | exact M.out | apply Rw.alloc | apply Rw.drewN | apply Rw.drew)) hi hb hk); clear hi hb hk) | (go_at_call 11; (refine (made_Dice_Of.calls g L p3 (some ⟨w5.heap.size, 0, none⟩) 3 [5, 0, 20] q2 p4 w _ (Rw.dice (by repeat (first | exact M5.out | apply Rw.alloc | apply Rw.drewN | apply Rw.drew))) (Rw.bel (by repeat (first | exact M5.out | apply Rw.alloc | apply Rw.drewN | apply Rw.drew))) (row_read (xs := [5, 0, 20]) (blk_new _ _) (by decide)) (by decide) (by intro ad h _; cases h; exact Ne.symm (Nat.ne_of_lt M5.out.dice.lt)) Q2.out).mono ?_); rintro e w7 ⟨rfl, hi, hb, hk⟩; have M7 := Aside0.mk (Rw.throw (by repeat (first | exact M5.out | apply Rw.alloc | apply Rw.drewN | apply Rw.drew)) hi hb hk); clear hi hb hk) | ((with_reducible refine gate_builtin (b := .append) (xs := #[.tmp 29, .tmp 40]) rfl ?_); at_builtin; refine Kd.R_append k31 w.heap.size rfl (.tmp 29) (.tmp 40) 27 31 (.agg #[(.int .i64 0), (.int .i64 0)]) 16 rfl Try.underlying27 info31 rfl (by decide) (by omega) (.slice A ls.length c) ls (⟨q1 - 1, q2⟩ : S31) [.int .i64 (q1 - 1), .int .i64 q2] (fun _ => True) (fun _ => False) rfl rfl ?aP (fun _ hk => hk.elim) ?aF ?aO (Below.refl _ _) ?aS ?aL ?_; (case aP => exact k31_mkM _ _ _ (⟨q1 - 1, q2⟩ : S31)); (case aF => exact (fun _ _ => trivial)); (case aO => exact Rw.row (by repeat (first | exact M7.out | apply Rw.alloc | apply Rw.drewN | apply Rw.drew))); (case aS => exact (Rw.bel (by repeat (first | exact M7.out | apply Rw.alloc | apply Rw.drewN | apply Rw.drew))).size); (case aL => omega); intro v8 w8 ho hb hg hat; have M8 := Aside0.mk (show Rw w w8 g L p4 v8 (ls ++ [⟨q1 - 1, q2⟩]) from ⟨IsS53.grown (Rw.dice (by repeat (first | exact M7.out | apply Rw.alloc | apply Rw.drewN | apply Rw.drew))) hg (IsS53.own_ne (Rw.dice (by repeat (first | exact M7.out | apply Rw.alloc | apply Rw.drewN | apply Rw.drew))) (Rw.row (by repeat (first | exact M7.out | apply Rw.alloc | apply Rw.drewN | apply Rw.drew))) (by decide)), below_weaken (Rw.bel (by repeat (first | exact M7.out | apply Rw.alloc | apply Rw.drewN | apply Rw.drew))) (Nat.le_refl _) hb, ho⟩); clear ho hb hg hat))
      go_roundg m
      case measure => omega
      case rel => exact ⟨_, n - 1, p4, (by first | go_num | (congr 1; first | omega | (unfold wrap64; omega))), (by omega), (by simp; omega), (by simp; omega), G2, D4, ⟨by repeat (first | exact M8.out | apply Rw.alloc | apply Rw.drewN | apply Rw.drew)⟩⟩
    · have hn0 : ¬ (0 : Int) < (n : Int) := by omega
      have hl1 : 1 ≤ ls.length := by omega
      have hl6 : ls.length ≤ 6 := by omega
      have hsnd : Snd ls := HG.out.snd hl1 (by omega)
      have HMK := Aside0.mk (show makeG ls = (zeroLn ls.length, 0) by unfold makeG; rw [if_pos hsnd])
      have HFIT := Aside0.mk (show Fit ls.length by unfold Fit; omega)
      have HV0 := Aside0.mk (zero_vl hsnd)
      have HW0 := Aside0.mk (fun (Wd : List Int) (h : Wd.length = ls.length) => Wok.zero (l := ls) h)
      obtain ⟨X0, hX0⟩ : ∃ X0, zeroLn ls.length = X0 := ⟨_, rfl⟩
      rw [hX0] at HMK HV0 HW0
      clear hX0
      have HSND := Aside0.mk hsnd
      clear hsnd
      go_upto_region 10 with (go_at_call 12; (with_reducible refine (make_calls ls A c _ (Kd.R_reads' (Rw.row (by repeat (first | exact M.out | apply Rw.alloc | apply Rw.drewN | apply Rw.drew)))).2.2 (Kd.R_reads' M.out.row).2.1 HFIT.out).mono ?_); rw [HMK.out]; rintro e w11 ⟨v1, v2, v3, v4, rfl, hmm, hb⟩; obtain ⟨a0, rfl, rfl, rfl, rfl, hla⟩ := hmm.form; have N1 := Aside0.mk (Lw.first (by repeat (first | exact M.out | apply Rw.alloc | apply Rw.drewN | apply Rw.drew)) hb hmm); clear hmm hb hla)
      generalize w11.alloc (Obj.cells #[Value.int IntKind.i64 X0.tm, Value.slice a0.A1 X0.st.length a0.c1, Value.slice a0.A2 X0.si.length a0.c2, Value.slice a0.A3 X0.pu.length a0.c3, Value.slice a0.A4 X0.he.length a0.c4] 34) = W11 at N1 ⊢
      generalize w11.heap.size = bx at N1 ⊢
      have hne : ((X0.st.length : Int) != (ls.length : Int)) = false := by rw [HV0.out.len.e1]; simp
      have ⟨xc0, _, xc1, _, xc2, _, xc3, _, xc4, _⟩ := box_open N1.out.box
      have mk1 := print_make_of (P := Try.prog) 22 3 (.int .i64 0) 8 Try.underlying22 info3 rfl (by decide) ls.length (by omega)
      go_upto_region 13 with fail
      clear mk1
      clear xc0 xc1 xc2 xc3 xc4
      have S1 := Aside0.mk (Sw.first N1.out ls.length _ (show Obj.cells (madeCells #[Value.int .i64 0] ls.length) 3 = _ by rw [madeCells_eq]))
      generalize W11.alloc (Obj.cells (madeCells #[Value.int .i64 0] ls.length) 3) = W12 at S1 ⊢
      generalize W11.heap.size = gw at S1 ⊢
      clear N1
      go_wp2_with fail
      go_loopg [9] ls.length (fun m v9 w' => ∃ (i : Nat) (Wd : List Int), v9 = .int .i64 i ∧ i + m = ls.length ∧ Aside0 (Wd.length = ls.length) ∧ Aside0 (Sw w w' g L p A c ls bx a0 X0 gw Wd))
      case atStart => exact ⟨0, _, rfl, by omega, ⟨by simp⟩, S1⟩
      case round =>
        clear S1
        obtain ⟨i, Wd, rfl, hm, HWL, N⟩ := hrel
        by_cases hi : i < ls.length
        · obtain ⟨m, rfl⟩ : ∃ q, gk = q + 1 := ⟨gk - 1, by omega⟩
          have hi2 : (i : Int) < (ls.length : Int) := by omega
          obtain ⟨t0, t1⟩ := Sw.time N.out i (by have := HWL.out; omega)
          go_wp2_with fail
          go_roundg m
          case measure => omega
          case rel => exact ⟨i + 1, Wd.set i (-1), by go_num, by omega, ⟨by rw [List.length_set]; exact HWL.out⟩, ⟨(by repeat (first | exact N.out | apply Sw.setw | apply Sw.alloc | apply Sw.drewN | apply Sw.drew))⟩⟩
        · obtain rfl : i = ls.length := by omega
          obtain ⟨n2, p2, hn2, n2a, n2b, hd2⟩ := next_ok HD.out 40 (by omega) (by omega)
          obtain ⟨n2, rfl⟩ : ∃ q : Nat, n2 = (q : Int) := ⟨n2.toNat, by omega⟩
          have HN2 := Aside0.mk hn2
          have HD2 := Aside0.mk hd2
          clear hn2 hd2
          have HWk := Aside0.mk (HW0.out Wd HWL.out)
          go_upto_region 18 with (go_at_call 10; (with_reducible refine (made_Dice_Next.calls g L p 40 (n2 : Int) p2 w _ (Rw.dice (Sw.rw_ (by repeat (first | exact N.out | apply Sw.alloc | apply Sw.drewN | apply Sw.drew)))) (Rw.bel (Sw.rw_ (by repeat (first | exact N.out | apply Sw.alloc | apply Sw.drewN | apply Sw.drew)))) HN2.out).mono ?_); rintro e w17 ⟨rfl, hi, hb, hk⟩; have N2 := Aside0.mk (Sw.throw (by repeat (first | exact N.out | apply Sw.alloc | apply Sw.drewN | apply Sw.drew)) hi hb hk); clear hi hb hk)
          go_wp2_with fail
          go_loopg [10] 40 (fun m v10 w' => ∃ (n : Nat) (p : Int) (X : Ln) (a : La) (Wd : List Int), v10 = .int .i64 n ∧ n ≤ m ∧ n ≤ 40 ∧ Aside0 (DiceOk L p) ∧ Aside0 (Sw w w' g L p A c ls bx a X gw Wd) ∧ Aside0 (Vl ls X) ∧ Aside0 (Wok ls X Wd))
          case atStart => exact ⟨n2, p2, X0, a0, Wd, rfl, (by omega), (by omega), HD2, N2, HV0, HWk⟩
          case round =>
            clear N2 HWk HV0 HW0 N HD HD2 HWL
            obtain ⟨n3, p3, X, a, Wd, rfl, hm3, h40, HD, N, HV, HW⟩ := hrel
            by_cases hn3 : 0 < n3
            · obtain ⟨m, rfl⟩ : ∃ q, gk = q + 1 := ⟨gk - 1, by omega⟩
              have hn4 : (0 : Int) < (n3 : Int) := by omega
              obtain ⟨i, p4, hi, i0, i1, hd4⟩ := next_ok HD.out (ls.length : Int) (by omega) (by omega)
              obtain ⟨i, rfl⟩ : ∃ q : Nat, i = (q : Int) := ⟨i.toNat, by omega⟩
              obtain ⟨q2, p5, hq2, hmem, hd5⟩ := of_ok hd4 [0, 0, 1, 1, 2, 3, 4, 5] (by simp) (by simp)
              have QI := Aside0.mk hi
              have Q2 := Aside0.mk hq2
              have D5 := Aside0.mk hd5
              clear hi hq2 hd4 hd5
              have HMEM := Aside0.mk hmem
              clear hmem
              have HZX := Aside0.mk (show Lz X by have e1 := HV.out.len.e1; have e2 := HV.out.len.e2; have e3 := HV.out.len.e3; have e4 := HV.out.len.e4; exact ⟨by omega, by omega, by omega, by omega⟩)
              go_upto_region 21 with (go_at_call 10; (with_reducible refine (made_Dice_Next.calls g L p3 (ls.length : Int) (i : Int) p4 w _ (Rw.dice (Sw.rw_ (by repeat (first | exact N.out | apply Sw.alloc | apply Sw.drewN | apply Sw.drew)))) (Rw.bel (Sw.rw_ (by repeat (first | exact N.out | apply Sw.alloc | apply Sw.drewN | apply Sw.drew)))) QI.out).mono ?_); rintro e w20 ⟨rfl, hi, hb, hk⟩; have N3 := Aside0.mk (Sw.throw (by repeat (first | exact N.out | apply Sw.alloc | apply Sw.drewN | apply Sw.drew)) hi hb hk); clear hi hb hk)
              have ⟨xc0, _, xc1, _, xc2, _, xc3, _, xc4, _⟩ := box_open N3.out.box
              go_upto_region 22 with (go_at_call 23; (with_reducible refine (rcopy_calls X a _ (Sw.lc (by repeat (first | exact N3.out | apply Sw.setw | apply Sw.alloc | apply Sw.drewN | apply Sw.drew))) HZX.out).mono ?_); rintro e w21 ⟨v1, v2, v3, v4, rfl, hmm, hb⟩; obtain ⟨b, rfl, rfl, rfl, rfl, hla⟩ := hmm.form; have V1 := Aside0.mk (Sv.first (by repeat (first | exact N3.out | apply Sw.setw | apply Sw.alloc | apply Sw.drewN | apply Sw.drew)) hb hmm); clear hmm hb hla)
              generalize w21.alloc (Obj.cells #[Value.int IntKind.i64 X.tm, Value.slice b.A1 X.st.length b.c1, Value.slice b.A2 X.si.length b.c2, Value.slice b.A3 X.pu.length b.c3, Value.slice b.A4 X.he.length b.c4] 34) = W21 at V1 ⊢
              generalize w21.heap.size = bw at V1 ⊢
              clear xc0 xc1 xc2 xc3 xc4 N3
              go_upto_block 6 with (go_at_call 11; (refine (made_Dice_Of.calls g L p4 (some ⟨W21.heap.size, 0, none⟩) 8 [0, 0, 1, 1, 2, 3, 4, 5] q2 p5 w _ (Rw.dice (Sw.rw_ (Sv.sw (by repeat (first | exact V1.out | apply Sv.setw | apply Sv.alloc | apply Sv.drewN | apply Sv.drew))))) (Rw.bel (Sw.rw_ (Sv.sw (by repeat (first | exact V1.out | apply Sv.setw | apply Sv.alloc | apply Sv.drewN | apply Sv.drew))))) (row_read (xs := [0, 0, 1, 1, 2, 3, 4, 5]) (blk_new _ _) (by decide)) (by decide) (by intro ad h _; cases h; exact Ne.symm (Nat.ne_of_lt V1.out.sw.rw_.dice.lt)) Q2.out).mono ?_); rintro e w22 ⟨rfl, hi, hb, hk⟩; have V2 := Aside0.mk (Sv.throw (by repeat (first | exact V1.out | apply Sv.setw | apply Sv.alloc | apply Sv.drewN | apply Sv.drew)) hi hb hk); clear hi hb hk)
              go_cut [13, 93, 109, 123, 132, 141] (fun v13 v93 v109 v123 v132 v141 wc => ∃ (Y : Ln) (a' : La) (Wd' : List Int) (p' : Int), Aside0 (Sv w wc g L p' A c ls bx a' Y gw Wd' bw b X) ∧ Aside0 (Vl ls Y) ∧ Aside0 (Chk ls X Y Wd' 0) ∧ Aside0 (DiceOk L p'))
              case first => as_aux_lemma =>
                obtain ⟨y0, -, y1, -, y2, -, y3, -, y4, -⟩ := box_open V2.out.sw.box
                have hq : q2 = 0 ∨ q2 = 1 ∨ q2 = 2 ∨ q2 = 3 ∨ q2 = 4 ∨ q2 = 5 := by have := HMEM.out; simp at this; omega
                clear HMEM V1
                rcases hq with rfl | rfl | rfl | rfl | rfl | rfl
                · rcases start_two ls X i with ⟨e, he, hs⟩ | ⟨hs, h0⟩
                  · have HS := Aside0.mk hs
                    have heb : (e == 0) = false := by simpa using he
                    have HC := Aside0.mk (HW.out.same (Y := X) rfl rfl)
                    clear he hs
                    go_upto_region 27 with (go_at_call 13; (with_reducible refine (start_calls ls A c X a (i : Int) _ (Sw.read (Sv.sw (by repeat (first | exact V2.out | apply Sv.setw | apply Sv.alloc | apply Sv.drewN | apply Sv.drew)))).1 V2.out.sw.read.2 HFIT.out (Sw.lc (Sv.sw (by repeat (first | exact V2.out | apply Sv.setw | apply Sv.alloc | apply Sv.drewN | apply Sv.drew))))).mono ?_); rw [HS.out]; rintro e w23 ⟨a2, rfl, hg, -, hb⟩; obtain ⟨o0, f0, o1, f1, o2, f2, o3, f3, o4, f4⟩ := box_open (blk_below (Sw.box (Sv.sw (by repeat (first | exact V2.out | apply Sv.setw | apply Sv.alloc | apply Sv.drewN | apply Sv.drew)))) hb); have V3 := Aside0.mk (Sv.next (by repeat (first | exact V2.out | apply Sv.setw | apply Sv.alloc | apply Sv.drewN | apply Sv.drew)) hg hb); clear hg hb)
                    generalize (World.setCell (World.setCell (World.setCell (World.setCell (World.setCell w23 ⟨bx, 0, none⟩ (Value.int IntKind.i64 X.tm)) ⟨bx, 1, none⟩ (Value.slice a2.A1 X.st.length a2.c1)) ⟨bx, 2, none⟩ (Value.slice a2.A2 X.si.length a2.c2)) ⟨bx, 3, none⟩ (Value.slice a2.A3 X.pu.length a2.c3)) ⟨bx, 4, none⟩ (Value.slice a2.A4 X.he.length a2.c4)) = W24 at V3 ⊢
                    clear o0 o1 o2 o3 o4 f0 f1 f2 f3 f4
                    go_wp2_with fail
                    go_meet
                    case rel => exact ⟨X, a2, Wd, p5, ⟨(by repeat (first | exact V3.out | apply Sv.setw | apply Sv.alloc | apply Sv.drewN | apply Sv.drew))⟩, HV, HC, D5⟩
                  · have HC := Aside0.mk (HW.out.begun HV.out (show i < ls.length by omega) h0)
                    have HVY := Aside0.mk (show Vl ls (begun X i) by have := startG_vl (i : Int) HV.out; rw [hs] at this; exact this)
                    have HWL := Aside0.mk HW.out.1
                    rw [show X.tm = (begun X i).tm from rfl] at HC
                    obtain ⟨Y, hY⟩ : ∃ Y, begun X i = Y := ⟨_, rfl⟩
                    rw [hY] at hs HC HVY
                    have HS := Aside0.mk hs
                    clear hY hs h0
                    go_upto_region 27 with (go_at_call 13; (with_reducible refine (start_calls ls A c X a (i : Int) _ (Sw.read (Sv.sw (by repeat (first | exact V2.out | apply Sv.setw | apply Sv.alloc | apply Sv.drewN | apply Sv.drew)))).1 V2.out.sw.read.2 HFIT.out (Sw.lc (Sv.sw (by repeat (first | exact V2.out | apply Sv.setw | apply Sv.alloc | apply Sv.drewN | apply Sv.drew))))).mono ?_); rw [HS.out]; rintro e w23 ⟨a2, rfl, hg, -, hb⟩; obtain ⟨o0, f0, o1, f1, o2, f2, o3, f3, o4, f4⟩ := box_open (blk_below (Sw.box (Sv.sw (by repeat (first | exact V2.out | apply Sv.setw | apply Sv.alloc | apply Sv.drewN | apply Sv.drew)))) hb); have V3 := Aside0.mk (Sv.next (by repeat (first | exact V2.out | apply Sv.setw | apply Sv.alloc | apply Sv.drewN | apply Sv.drew)) hg hb); clear hg hb)
                    generalize (World.setCell (World.setCell (World.setCell (World.setCell (World.setCell w23 ⟨bx, 0, none⟩ (Value.int IntKind.i64 Y.tm)) ⟨bx, 1, none⟩ (Value.slice a2.A1 Y.st.length a2.c1)) ⟨bx, 2, none⟩ (Value.slice a2.A2 Y.si.length a2.c2)) ⟨bx, 3, none⟩ (Value.slice a2.A3 Y.pu.length a2.c3)) ⟨bx, 4, none⟩ (Value.slice a2.A4 Y.he.length a2.c4)) = W24 at V3 ⊢
                    clear o0 o1 o2 o3 o4 f0 f1 f2 f3 f4
                    obtain ⟨o0, -, o1, -, o2, -, o3, -, o4, -⟩ := box_open V3.out.sw.box
                    obtain ⟨t0, t1⟩ := Sw.time V3.out.sw i (by have := HWL.out; omega)
                    go_wp2_with fail
                    go_meet
                    case rel => exact ⟨Y, a2, Wd.set i Y.tm, p5, ⟨(by repeat (first | exact V3.out | apply Sv.setw | apply Sv.alloc | apply Sv.drewN | apply Sv.drew))⟩, HVY, HC, D5⟩
                · obtain ⟨q3, p6, hq3, -, hd6⟩ := of_ok D5.out [5, 3, 20, 0] (by simp) (by simp)
                  have Q3 := Aside0.mk hq3
                  have D6 := Aside0.mk hd6
                  clear hq3 hd6
                  have HC := Aside0.mk (HW.out.waits HV.out (wrap64 (X.tm + q3)))
                  have HVY := Aside0.mk (waitG_vl (wrap64 (X.tm + q3)) HV.out)
                  obtain ⟨Y, E, hY⟩ : ∃ Y E, waitG ls X (wrap64 (X.tm + q3)) = (Y, E) := ⟨_, _, rfl⟩
                  rw [hY] at HC HVY
                  have HWT := Aside0.mk hY
                  clear hY
                  go_upto_region 30 with fail
                  have M0 := V2.out.drew
                  refine start_ (n := 13) (S := (fun w' => w'.cell? ⟨bx, 0, none⟩ = some (Value.int IntKind.i64 X.tm) ∧ w'.cell? ⟨bx, 1, none⟩ = some (Value.slice a.A1 X.st.length a.c1) ∧ w'.cell? ⟨bx, 2, none⟩ = some (Value.slice a.A2 X.si.length a.c2) ∧ w'.cell? ⟨bx, 3, none⟩ = some (Value.slice a.A3 X.pu.length a.c3) ∧ w'.cell? ⟨bx, 4, none⟩ = some (Value.slice a.A4 X.he.length a.c4))) (ds := [12]) #[false, false, false, false, false, false, false, false, false, false, false, false, false] (by kernel_rfl) rfl rfl ⟨(blk_cell M0.sw.box 0).trans rfl, (blk_cell M0.sw.box 1).trans rfl, (blk_cell M0.sw.box 2).trans rfl, (blk_cell M0.sw.box 3).trans rfl, (blk_cell M0.sw.box 4).trans rfl⟩ (fun hHeld => ?_)
                  refine pure_ (i := 0) (N := some 112) (v := ?_) (a' := ?_) #[true, false, false, false, false, false, false, false, false, false, false, false, false] rfl rfl (by kernel_rfl) (fun _ _ _ h => h) (Or.inl ⟨by rfl, ?_⟩) ?_ ?_
                  rotate_left; · intro w'; go_simp; with_reducible rfl
                  rotate_left; · simp only [Act.put, List.setIfInBounds_toArray, List.set_cons_zero, List.set_cons_succ, i64_w, i32_w]; rfl
                  refine pure_ (i := 2) (N := some 114) (v := ?_) (a' := ?_) #[true, false, true, false, false, false, false, false, false, false, false, false, false] rfl rfl (by kernel_rfl) (fun _ _ _ h => h) (Or.inl ⟨by rfl, ?_⟩) ?_ ?_
                  rotate_left; · intro w'; go_simp; with_reducible rfl
                  rotate_left; · simp only [Act.put, List.setIfInBounds_toArray, List.set_cons_zero, List.set_cons_succ, i64_w, i32_w]; rfl
                  refine pure_ (i := 4) (N := some 116) (v := ?_) (a' := ?_) #[true, false, true, false, true, false, false, false, false, false, false, false, false] rfl rfl (by kernel_rfl) (fun _ _ _ h => h) (Or.inl ⟨by rfl, ?_⟩) ?_ ?_
                  rotate_left; · intro w'; go_simp; with_reducible rfl
                  rotate_left; · simp only [Act.put, List.setIfInBounds_toArray, List.set_cons_zero, List.set_cons_succ, i64_w, i32_w]; rfl
                  refine take_ (i := 1) (N := some 113) (v := ?_) (a' := ?_) #[true, true, true, false, true, false, false, false, false, false, false, false, false] rfl rfl (by kernel_rfl) (fun _ _ _ h => h) (Or.inl ⟨by rfl, ?_⟩) hHeld ?_ ?_
                  rotate_left; · rintro w' ⟨s0, s1, s2, s3, s4⟩; go_simp; with_reducible rfl
                  rotate_left; · simp only [Act.put, List.setIfInBounds_toArray, List.set_cons_zero, List.set_cons_succ, i64_w, i32_w]; rfl
                  refine take_ (i := 3) (N := some 115) (v := ?_) (a' := ?_) #[true, true, true, true, true, false, false, false, false, false, false, false, false] rfl rfl (by kernel_rfl) (fun _ _ _ h => h) (Or.inl ⟨by rfl, ?_⟩) hHeld ?_ ?_
                  rotate_left; · rintro w' ⟨s0, s1, s2, s3, s4⟩; go_simp; with_reducible rfl
                  rotate_left; · simp only [Act.put, List.setIfInBounds_toArray, List.set_cons_zero, List.set_cons_succ, i64_w, i32_w]; rfl
                  clear hHeld
                  refine one_ (i := 5) (N := some 117) #[true, true, true, true, true, true, false, false, false, false, false, false, false] rfl rfl (by kernel_rfl) (by decide) (fun K hK => ?_)
                  refine lit_step (by rfl) (n := 4) (cs := #[Value.int IntKind.i64 5, Value.int IntKind.i64 3, Value.int IntKind.i64 20, Value.int IntKind.i64 0]) (t := 3) (by first | (go_simp; done) | (go_simp; rfl)) ?_
                  intro B eB W2 hB hb
                  have M1 := M0.below hb
                  have nB : B ≠ g := by have := M0.sw.rw_.dice.lt; omega
                  clear eB
                  refine hK.out _ _ ⟨(blk_cell M1.sw.box 0).trans rfl, (blk_cell M1.sw.box 1).trans rfl, (blk_cell M1.sw.box 2).trans rfl, (blk_cell M1.sw.box 3).trans rfl, (blk_cell M1.sw.box 4).trans rfl⟩ (fun hHeld => ?_)
                  clear hK K hHeld hb
                  refine norm_ (a' := ?_) ?_ ?_
                  rotate_left
                  · show Act.put _ (some 117) _ = _; simp only [Act.put, List.setIfInBounds_toArray, List.set_cons_zero, List.set_cons_succ, i64_w, i32_w]; rfl
                  refine one_ (i := 6) (N := some 118) #[true, true, true, true, true, true, true, false, false, false, false, false, false] rfl rfl (by kernel_rfl) (by decide) (fun K hK => ?_)
                  refine goes_ Try.func11 (by kernel_rfl) rfl #[.pointer (some ⟨g, 0, none⟩), .slice (some ⟨B, 0, none⟩) 4 4] (by rfl) rfl rfl (by simp only [List.map_toArray, List.map_cons, List.map_nil]; rfl) ?_
                  refine (made_Dice_Of.calls g L p5 (some ⟨B, 0, none⟩) 4 [5, 3, 20, 0] q3 p6 w _ M1.sw.rw_.dice M1.sw.rw_.bel (row_read (xs := [5, 3, 20, 0]) hB (by decide)) (by decide) (by intro ad h _; cases h; exact nB) Q3.out).mono ?_
                  rintro e W3 ⟨rfl, hi, hb, hk⟩
                  refine ⟨_, rfl, ?_⟩
                  have M2 := M1.throw hi hb hk
                  clear hi hb hk hB nB
                  refine hK.out _ _ ⟨(blk_cell M2.sw.box 0).trans rfl, (blk_cell M2.sw.box 1).trans rfl, (blk_cell M2.sw.box 2).trans rfl, (blk_cell M2.sw.box 3).trans rfl, (blk_cell M2.sw.box 4).trans rfl⟩ (fun hHeld => ?_)
                  clear hK K hHeld
                  refine norm_ (a' := ?_) ?_ ?_
                  rotate_left
                  · show Act.put _ (some 118) _ = _; simp only [Act.put, List.setIfInBounds_toArray, List.set_cons_zero, List.set_cons_succ, i64_w, i32_w]; rfl
                  refine pure_ (i := 7) (N := some 119) (v := ?_) (a' := ?_) #[true, true, true, true, true, true, true, true, false, false, false, false, false] rfl rfl (by kernel_rfl) (fun _ _ _ h => h) (Or.inl ⟨by rfl, ?_⟩) ?_ ?_
                  rotate_left; · intro w'; go_simp; with_reducible rfl
                  rotate_left; · simp only [Act.put, List.setIfInBounds_toArray, List.set_cons_zero, List.set_cons_succ, i64_w, i32_w]; rfl
                  refine one_ (i := 8) (N := some 120) #[true, true, true, true, true, true, true, true, true, false, false, false, false] rfl rfl (by kernel_rfl) (by decide) (fun K hK => ?_)
                  refine goes_ Try.func14 (by kernel_rfl) rfl #[.slice A ls.length c, .agg #[.int .i64 X.tm, .slice a.A1 X.st.length a.c1, .slice a.A2 X.si.length a.c2, .slice a.A3 X.pu.length a.c3, .slice a.A4 X.he.length a.c4], .int .i64 (wrap64 (X.tm + q3))] (by rfl) rfl rfl (by simp only [List.map_toArray, List.map_cons, List.map_nil]; rfl) ?_
                  refine (waitG_calls ls A c X a (wrap64 (X.tm + q3)) _ M2.sw.read.1 M2.sw.read.2 HFIT.out M2.sw.lc).mono ?_
                  rw [HWT.out]
                  rintro e W4 ⟨a3, rfl, hg, -, hb⟩
                  refine ⟨_, rfl, ?_⟩
                  have M3 := M2.next hg hb
                  have hb3 := blk_below M2.sw.box hb
                  clear hg hb
                  have HS3 : W4.cell? ⟨bx, 0, none⟩ = some (Value.int IntKind.i64 X.tm) ∧ W4.cell? ⟨bx, 1, none⟩ = some (Value.slice a.A1 X.st.length a.c1) ∧ W4.cell? ⟨bx, 2, none⟩ = some (Value.slice a.A2 X.si.length a.c2) ∧ W4.cell? ⟨bx, 3, none⟩ = some (Value.slice a.A3 X.pu.length a.c3) ∧ W4.cell? ⟨bx, 4, none⟩ = some (Value.slice a.A4 X.he.length a.c4) := ⟨(blk_cell hb3 0).trans rfl, (blk_cell hb3 1).trans rfl, (blk_cell hb3 2).trans rfl, (blk_cell hb3 3).trans rfl, (blk_cell hb3 4).trans rfl⟩
                  refine hK.out _ _ HS3 (fun hHeld => ?_)
                  clear hK K hHeld HS3
                  refine norm_ (a' := ?_) ?_ ?_
                  rotate_left
                  · show Act.put _ (some 120) _ = _; simp only [Act.put, List.setIfInBounds_toArray, List.set_cons_zero, List.set_cons_succ, i64_w, i32_w]; rfl
                  refine pure_ (i := 9) (N := some 111) (v := ?_) (a' := ?_) #[true, true, true, true, true, true, true, true, true, true, false, false, false] rfl rfl (by kernel_rfl) (fun _ _ _ h => h) (Or.inl ⟨by rfl, ?_⟩) ?_ ?_
                  rotate_left; · intro w'; go_simp; with_reducible rfl
                  rotate_left; · simp only [Act.put, List.setIfInBounds_toArray, List.set_cons_zero, List.set_cons_succ, i64_w, i32_w]; rfl
                  refine pure_ (i := 10) (N := some 121) (v := ?_) (a' := ?_) #[true, true, true, true, true, true, true, true, true, true, true, false, false] rfl rfl (by kernel_rfl) (fun _ _ _ h => h) (Or.inl ⟨by rfl, ?_⟩) ?_ ?_
                  rotate_left; · intro w'; go_simp; with_reducible rfl
                  rotate_left; · simp only [Act.put, List.setIfInBounds_toArray, List.set_cons_zero, List.set_cons_succ, i64_w, i32_w]; rfl
                  refine pure_ (i := 11) (N := some 122) (v := ?_) (a' := ?_) #[true, true, true, true, true, true, true, true, true, true, true, true, false] rfl rfl (by kernel_rfl) (fun _ _ _ h => h) (Or.inl ⟨by rfl, ?_⟩) ?_ ?_
                  rotate_left; · intro w'; go_simp; with_reducible rfl
                  rotate_left; · simp only [Act.put, List.setIfInBounds_toArray, List.set_cons_zero, List.set_cons_succ, i64_w, i32_w]; rfl
                  refine last_ (i := 12) (N := none) #[true, true, true, true, true, true, true, true, true, true, true, true, true] rfl rfl (by kernel_rfl) (by decide) (fun K hK => ?_)
                  obtain ⟨o0, u0, o1, u1, o2, u2, o3, u3, o4, u4⟩ := box_open hb3
                  refine skip_ (w1 := ?_) (by rfl) rfl ?_ ?_
                  rotate_left
                  · go_simp; rfl
                  refine hK.out _ _ ?_
                  clear hK K
                  refine done_ (by kernel_rfl) ?_
                  go_wp2_with fail
                  go_meet
                  case rel => exact ⟨Y, a3, Wd, p6, ⟨M3⟩, HVY, HC, D6⟩
                · have HC := Aside0.mk (Wok.stopG HV.out HW.out (i : Int))
                  have HVY := Aside0.mk (stopG_vl (i : Int) HV.out)
                  obtain ⟨Y, E, hY⟩ : ∃ Y E, stopG ls X (i : Int) = (Y, E) := ⟨_, _, rfl⟩
                  rw [hY] at HC HVY
                  have HWT := Aside0.mk hY
                  clear hY
                  go_wp2_with (go_at_call 24; (with_reducible refine (stopG_calls ls A c X a (i : Int) _ (Sw.read (Sv.sw (by repeat (first | exact V2.out | apply Sv.setw | apply Sv.alloc | apply Sv.drewN | apply Sv.drew)))).1 V2.out.sw.read.2 HFIT.out (Sw.lc (Sv.sw (by repeat (first | exact V2.out | apply Sv.setw | apply Sv.alloc | apply Sv.drewN | apply Sv.drew))))).mono ?_); rw [HWT.out]; rintro e w23 ⟨a2, rfl, hg, -, hb⟩; obtain ⟨o0, f0, o1, f1, o2, f2, o3, f3, o4, f4⟩ := box_open (blk_below (Sw.box (Sv.sw (by repeat (first | exact V2.out | apply Sv.setw | apply Sv.alloc | apply Sv.drewN | apply Sv.drew)))) hb); have V3 := Aside0.mk (Sv.next (by repeat (first | exact V2.out | apply Sv.setw | apply Sv.alloc | apply Sv.drewN | apply Sv.drew)) hg hb); clear hg hb)
                  go_meet
                  case rel => exact ⟨Y, a2, Wd, p5, ⟨(by repeat (first | exact V3.out | apply Sv.setw | apply Sv.alloc | apply Sv.drewN | apply Sv.drew))⟩, HVY, HC, D5⟩
                · have HC := Aside0.mk (Wok.pullG HV.out HW.out (i : Int))
                  have HVY := Aside0.mk (pullG_vl (i : Int) HV.out)
                  obtain ⟨Y, E, hY⟩ : ∃ Y E, pullG ls X (i : Int) = (Y, E) := ⟨_, _, rfl⟩
                  rw [hY] at HC HVY
                  have HWT := Aside0.mk hY
                  clear hY
                  go_wp2_with (go_at_call 15; (with_reducible refine (pullG_calls ls A c X a (i : Int) _ (Sw.read (Sv.sw (by repeat (first | exact V2.out | apply Sv.setw | apply Sv.alloc | apply Sv.drewN | apply Sv.drew)))).1 V2.out.sw.read.2 HFIT.out (Sw.lc (Sv.sw (by repeat (first | exact V2.out | apply Sv.setw | apply Sv.alloc | apply Sv.drewN | apply Sv.drew))))).mono ?_); rw [HWT.out]; rintro e w23 ⟨a2, rfl, hg, -, hb⟩; obtain ⟨o0, f0, o1, f1, o2, f2, o3, f3, o4, f4⟩ := box_open (blk_below (Sw.box (Sv.sw (by repeat (first | exact V2.out | apply Sv.setw | apply Sv.alloc | apply Sv.drewN | apply Sv.drew)))) hb); have V3 := Aside0.mk (Sv.next (by repeat (first | exact V2.out | apply Sv.setw | apply Sv.alloc | apply Sv.drewN | apply Sv.drew)) hg hb); clear hg hb)
                  go_meet
                  case rel => exact ⟨Y, a2, Wd, p5, ⟨(by repeat (first | exact V3.out | apply Sv.setw | apply Sv.alloc | apply Sv.drewN | apply Sv.drew))⟩, HVY, HC, D5⟩
                · have HC := Aside0.mk (Wok.restG HV.out HW.out (i : Int))
                  have HVY := Aside0.mk (restG_vl (i : Int) HV.out)
                  obtain ⟨Y, E, hY⟩ : ∃ Y E, restG ls X (i : Int) = (Y, E) := ⟨_, _, rfl⟩
                  rw [hY] at HC HVY
                  have HWT := Aside0.mk hY
                  clear hY
                  go_wp2_with (go_at_call 25; (with_reducible refine (restG_calls ls A c X a (i : Int) _ (Sw.read (Sv.sw (by repeat (first | exact V2.out | apply Sv.setw | apply Sv.alloc | apply Sv.drewN | apply Sv.drew)))).1 V2.out.sw.read.2 HFIT.out (Sw.lc (Sv.sw (by repeat (first | exact V2.out | apply Sv.setw | apply Sv.alloc | apply Sv.drewN | apply Sv.drew))))).mono ?_); rw [HWT.out]; rintro e w23 ⟨a2, rfl, hg, -, hb⟩; obtain ⟨o0, f0, o1, f1, o2, f2, o3, f3, o4, f4⟩ := box_open (blk_below (Sw.box (Sv.sw (by repeat (first | exact V2.out | apply Sv.setw | apply Sv.alloc | apply Sv.drewN | apply Sv.drew)))) hb); have V3 := Aside0.mk (Sv.next (by repeat (first | exact V2.out | apply Sv.setw | apply Sv.alloc | apply Sv.drewN | apply Sv.drew)) hg hb); clear hg hb)
                  go_meet
                  case rel => exact ⟨Y, a2, Wd, p5, ⟨(by repeat (first | exact V3.out | apply Sv.setw | apply Sv.alloc | apply Sv.drewN | apply Sv.drew))⟩, HVY, HC, D5⟩
                · obtain ⟨b6, p6, hq3, hd6⟩ := one_ok D5.out 2 (by omega) (by omega)
                  have Q3 := Aside0.mk hq3
                  have D6 := Aside0.mk hd6
                  clear hq3 hd6
                  have HC := Aside0.mk (Wok.holdG HV.out HW.out (i : Int) b6)
                  have HVY := Aside0.mk (holdG_vl (i : Int) b6 HV.out)
                  obtain ⟨Y, E, hY⟩ : ∃ Y E, holdG ls X (i : Int) b6 = (Y, E) := ⟨_, _, rfl⟩
                  rw [hY] at HC HVY
                  have HWT := Aside0.mk hY
                  clear hY
                  go_upto_region 23 with fail
                  have M0 := V2.out.drew
                  refine start_ (n := 10) (S := (fun w' => w'.cell? ⟨bx, 0, none⟩ = some (Value.int IntKind.i64 X.tm) ∧ w'.cell? ⟨bx, 1, none⟩ = some (Value.slice a.A1 X.st.length a.c1) ∧ w'.cell? ⟨bx, 2, none⟩ = some (Value.slice a.A2 X.si.length a.c2) ∧ w'.cell? ⟨bx, 3, none⟩ = some (Value.slice a.A3 X.pu.length a.c3) ∧ w'.cell? ⟨bx, 4, none⟩ = some (Value.slice a.A4 X.he.length a.c4))) (ds := [9]) #[false, false, false, false, false, false, false, false, false, false] (by kernel_rfl) rfl rfl ⟨(blk_cell M0.sw.box 0).trans rfl, (blk_cell M0.sw.box 1).trans rfl, (blk_cell M0.sw.box 2).trans rfl, (blk_cell M0.sw.box 3).trans rfl, (blk_cell M0.sw.box 4).trans rfl⟩ (fun hHeld => ?_)
                  refine pure_ (i := 0) (N := some 85) (v := ?_) (a' := ?_) #[true, false, false, false, false, false, false, false, false, false] rfl rfl (by kernel_rfl) (fun _ _ _ h => h) (Or.inl ⟨by rfl, ?_⟩) ?_ ?_
                  rotate_left; · intro w'; go_simp; with_reducible rfl
                  rotate_left; · simp only [Act.put, List.setIfInBounds_toArray, List.set_cons_zero, List.set_cons_succ, i64_w, i32_w]; rfl
                  refine pure_ (i := 2) (N := some 87) (v := ?_) (a' := ?_) #[true, false, true, false, false, false, false, false, false, false] rfl rfl (by kernel_rfl) (fun _ _ _ h => h) (Or.inl ⟨by rfl, ?_⟩) ?_ ?_
                  rotate_left; · intro w'; go_simp; with_reducible rfl
                  rotate_left; · simp only [Act.put, List.setIfInBounds_toArray, List.set_cons_zero, List.set_cons_succ, i64_w, i32_w]; rfl
                  refine pure_ (i := 3) (N := some 88) (v := ?_) (a' := ?_) #[true, false, true, true, false, false, false, false, false, false] rfl rfl (by kernel_rfl) (fun _ _ _ h => h) (Or.inl ⟨by rfl, ?_⟩) ?_ ?_
                  rotate_left; · intro w'; go_simp; with_reducible rfl
                  rotate_left; · simp only [Act.put, List.setIfInBounds_toArray, List.set_cons_zero, List.set_cons_succ, i64_w, i32_w]; rfl
                  refine take_ (i := 1) (N := some 86) (v := ?_) (a' := ?_) #[true, true, true, true, false, false, false, false, false, false] rfl rfl (by kernel_rfl) (fun _ _ _ h => h) (Or.inl ⟨by rfl, ?_⟩) hHeld ?_ ?_
                  rotate_left; · rintro w' ⟨s0, s1, s2, s3, s4⟩; go_simp; with_reducible rfl
                  rotate_left; · simp only [Act.put, List.setIfInBounds_toArray, List.set_cons_zero, List.set_cons_succ, i64_w, i32_w]; rfl
                  clear hHeld
                  refine one_ (i := 4) (N := some 89) #[true, true, true, true, true, false, false, false, false, false] rfl rfl (by kernel_rfl) (by decide) (fun K hK => ?_)
                  refine goes_ Try.func27 (by kernel_rfl) rfl #[.pointer (some ⟨g, 0, none⟩), .int .i64 2] (by rfl) rfl rfl (by simp only [List.map_toArray, List.map_cons, List.map_nil]; rfl) ?_
                  refine (made_Dice_One.calls g L p5 2 b6 p6 w _ M0.sw.rw_.dice M0.sw.rw_.bel Q3.out).mono ?_
                  rintro e W3 ⟨rfl, hi, hb, hk⟩
                  refine ⟨_, rfl, ?_⟩
                  have M2 := M0.throw hi hb hk
                  clear hi hb hk
                  refine hK.out _ _ ⟨(blk_cell M2.sw.box 0).trans rfl, (blk_cell M2.sw.box 1).trans rfl, (blk_cell M2.sw.box 2).trans rfl, (blk_cell M2.sw.box 3).trans rfl, (blk_cell M2.sw.box 4).trans rfl⟩ (fun hHeld => ?_)
                  clear hK K hHeld
                  refine norm_ (a' := ?_) ?_ ?_
                  rotate_left
                  · show Act.put _ (some 89) _ = _; simp only [Act.put, List.setIfInBounds_toArray, List.set_cons_zero, List.set_cons_succ, i64_w, i32_w]; rfl
                  refine one_ (i := 5) (N := some 90) #[true, true, true, true, true, true, false, false, false, false] rfl rfl (by kernel_rfl) (by decide) (fun K hK => ?_)
                  refine goes_ Try.func26 (by kernel_rfl) rfl #[.slice A ls.length c, .agg #[.int .i64 X.tm, .slice a.A1 X.st.length a.c1, .slice a.A2 X.si.length a.c2, .slice a.A3 X.pu.length a.c3, .slice a.A4 X.he.length a.c4], .int .i64 (i : Int), .bool b6] (by rfl) rfl rfl (by simp only [List.map_toArray, List.map_cons, List.map_nil]; rfl) ?_
                  refine (holdG_calls ls A c X a (i : Int) b6 _ M2.sw.read.1 M2.sw.read.2 HFIT.out M2.sw.lc).mono ?_
                  rw [HWT.out]
                  rintro e W4 ⟨a3, rfl, hg, -, hb⟩
                  refine ⟨_, rfl, ?_⟩
                  have M3 := M2.next hg hb
                  have hb3 := blk_below M2.sw.box hb
                  clear hg hb
                  have HS3 : W4.cell? ⟨bx, 0, none⟩ = some (Value.int IntKind.i64 X.tm) ∧ W4.cell? ⟨bx, 1, none⟩ = some (Value.slice a.A1 X.st.length a.c1) ∧ W4.cell? ⟨bx, 2, none⟩ = some (Value.slice a.A2 X.si.length a.c2) ∧ W4.cell? ⟨bx, 3, none⟩ = some (Value.slice a.A3 X.pu.length a.c3) ∧ W4.cell? ⟨bx, 4, none⟩ = some (Value.slice a.A4 X.he.length a.c4) := ⟨(blk_cell hb3 0).trans rfl, (blk_cell hb3 1).trans rfl, (blk_cell hb3 2).trans rfl, (blk_cell hb3 3).trans rfl, (blk_cell hb3 4).trans rfl⟩
                  refine hK.out _ _ HS3 (fun hHeld => ?_)
                  clear hK K hHeld HS3
                  refine norm_ (a' := ?_) ?_ ?_
                  rotate_left
                  · show Act.put _ (some 90) _ = _; simp only [Act.put, List.setIfInBounds_toArray, List.set_cons_zero, List.set_cons_succ, i64_w, i32_w]; rfl
                  refine pure_ (i := 6) (N := some 84) (v := ?_) (a' := ?_) #[true, true, true, true, true, true, true, false, false, false] rfl rfl (by kernel_rfl) (fun _ _ _ h => h) (Or.inl ⟨by rfl, ?_⟩) ?_ ?_
                  rotate_left; · intro w'; go_simp; with_reducible rfl
                  rotate_left; · simp only [Act.put, List.setIfInBounds_toArray, List.set_cons_zero, List.set_cons_succ, i64_w, i32_w]; rfl
                  refine pure_ (i := 7) (N := some 91) (v := ?_) (a' := ?_) #[true, true, true, true, true, true, true, true, false, false] rfl rfl (by kernel_rfl) (fun _ _ _ h => h) (Or.inl ⟨by rfl, ?_⟩) ?_ ?_
                  rotate_left; · intro w'; go_simp; with_reducible rfl
                  rotate_left; · simp only [Act.put, List.setIfInBounds_toArray, List.set_cons_zero, List.set_cons_succ, i64_w, i32_w]; rfl
                  refine pure_ (i := 8) (N := some 92) (v := ?_) (a' := ?_) #[true, true, true, true, true, true, true, true, true, false] rfl rfl (by kernel_rfl) (fun _ _ _ h => h) (Or.inl ⟨by rfl, ?_⟩) ?_ ?_
                  rotate_left; · intro w'; go_simp; with_reducible rfl
                  rotate_left; · simp only [Act.put, List.setIfInBounds_toArray, List.set_cons_zero, List.set_cons_succ, i64_w, i32_w]; rfl
                  refine last_ (i := 9) (N := none) #[true, true, true, true, true, true, true, true, true, true] rfl rfl (by kernel_rfl) (by decide) (fun K hK => ?_)
                  obtain ⟨o0, u0, o1, u1, o2, u2, o3, u3, o4, u4⟩ := box_open hb3
                  refine skip_ (w1 := ?_) (by rfl) rfl ?_ ?_
                  rotate_left
                  · go_simp; rfl
                  refine hK.out _ _ ?_
                  clear hK K
                  refine done_ (by kernel_rfl) ?_
                  go_wp2_with fail
                  go_meet
                  case rel => exact ⟨Y, a3, Wd, p6, ⟨M3⟩, HVY, HC, D6⟩
              case rest =>
                clear HMEM V1 V2
                obtain ⟨Y, a', Wd', p', S, VY, HC, D6⟩ := hcut
                obtain ⟨z0, -, z1, -, z2, -, z3, -, z4, -⟩ := box_open S.out.sw.box
                have HVL := Aside0.mk (vlB_iff.2 VY.out)
                have e1 : ((Y.st.length : Int) != (ls.length : Int)) = false := by rw [VY.out.len.e1]; simp
                have e3 : ((Y.pu.length : Int) != (ls.length : Int)) = false := by rw [VY.out.len.e3]; simp
                have e4 : ((Y.he.length : Int) != (ls.length : Int)) = false := by rw [VY.out.len.e4]; simp
                go_upto_region 39 with (go_at_call 28; (with_reducible refine (valid_calls ls A c Y a' _ (Sw.read (Sv.sw (by repeat (first | exact S.out | apply Sv.setw | apply Sv.alloc | apply Sv.drewN | apply Sv.drew)))).1 S.out.sw.read.2 HFIT.out (Sw.lc (Sv.sw (by repeat (first | exact S.out | apply Sv.setw | apply Sv.alloc | apply Sv.drewN | apply Sv.drew))))).mono ?_); rw [HVL.out]; rintro e w37 ⟨rfl, hb⟩; have S2 := Aside0.mk (Sv.below (by repeat (first | exact S.out | apply Sv.setw | apply Sv.alloc | apply Sv.drewN | apply Sv.drew)) hb); obtain ⟨o0, f0, o1, f1, o2, f2, o3, f3, o4, f4⟩ := box_open S2.out.sw.box; clear hb)
                clear z0 z1 z2 z3 z4 o0 o1 o2 o3 o4 f0 f1 f2 f3 f4 e1 e3 e4 S
                go_wp2_with fail
                go_loopg [14] ls.length (fun m v14 w' => ∃ (k : Nat) (Wk : List Int), v14 = .int .i64 k ∧ k + m = ls.length ∧ Aside0 (Chk ls X Y Wk k) ∧ Aside0 (Sv w w' g L p' A c ls bx a' Y gw Wk bw b X))
                case atStart => exact ⟨0, Wd', rfl, by omega, HC, ⟨(by repeat (first | exact S2.out | apply Sv.setw | apply Sv.alloc | apply Sv.drewN | apply Sv.drew))⟩⟩
                case round => as_aux_lemma =>
                  clear HC S2
                  obtain ⟨k, Wk, rfl, hmk, HC, S⟩ := hrel
                  by_cases hk : k < ls.length
                  · obtain ⟨m2, rfl⟩ : ∃ q, gk = q + 1 := ⟨gk - 1, by omega⟩
                    have hk2 : (k : Int) < (ls.length : Int) := by omega
                    have hrow := VY.out.row (k : Int) (by omega) hk2
                    have ly1 := S.out.sw.lc.r1
                    have ly3 := S.out.sw.lc.r3
                    have ly4 := S.out.sw.lc.r4
                    have lx1 := S.out.lc.r1
                    have by1 := S.out.sw.box
                    have bx1 := S.out.box
                    rw [VY.out.len.e1] at ly1
                    rw [VY.out.len.e3] at ly3
                    rw [VY.out.len.e4] at ly4
                    rw [HV.out.len.e1] at lx1
                    simp only [lcells] at by1 bx1
                    rw [VY.out.len.e1, VY.out.len.e3, VY.out.len.e4] at by1
                    rw [HV.out.len.e1] at bx1
                    obtain ⟨y0, -, y1, -, y2, -, y3, -, y4, -⟩ := box_open by1
                    obtain ⟨x0, -, x1, -, x2, -, x3, -, x4, -⟩ := box_open bx1
                    clear by1 bx1 x0 x2 x3 x4 y2
                    obtain ⟨ad1, q1, d1⟩ := Kd.at_int ly1 (k : Int) (by omega) hk2
                    obtain ⟨ad3, q3, d3⟩ := Kd.at_bool ly3 (k : Int) (by omega) hk2
                    obtain ⟨ad4, q4, d4⟩ := Kd.at_bool ly4 (k : Int) (by omega) hk2
                    obtain ⟨ad5, q5, d5⟩ := Kd.at_int lx1 (k : Int) (by omega) hk2
                    obtain ⟨t0, t1⟩ := Sw.time S.out.sw k (by have := HC.out.1; omega)
                    rw [q1] at y1
                    rw [q3] at y3
                    rw [q4] at y4
                    rw [q5] at x1
                    simp only [Int.toNat_natCast] at d1 d3 d4 d5
                    have hq1 := Aside0.mk q1
                    have hly1 := Aside0.mk ly1
                    clear ly1 ly3 ly4 lx1 q1 q3 q4 q5
                    obtain ⟨ad, e', D0, D1⟩ := at_T31 (Sw.read S.out.sw).1 (k : Int) (by omega) hk2
                    cases e'
                    simp only [Int.toNat_natCast] at D0 D1
                    have D1' : wr.cell? ⟨(ad.add (k * 2)).block, (ad.add (k * 2)).off + 1, none⟩ = some (.int .i64 (warn ls k)) := D1
                    have D0' : wr.cell? (ad.add (k * 2)) = some (.int .i64 (up ls k)) := D0
                    clear D0 D1
                    obtain ⟨⟨r0, r1⟩, ⟨r2, r3⟩, r4⟩ := hrow
                    have htm := VY.out.tm
                    have hwn := HSND.out.wn (k : Int) (by omega) hk2
                    have HSI := Aside0.mk r3
                    clear r3
                    by_cases h2 : rd Y.st (k : Int) = 2
                    · rw [h2] at d1
                      have HPAIR := Aside0.mk ((HC.out.2 k hk).2 (Nat.le_refl _) h2)
                      obtain ⟨ra, rb, rc⟩ := r4 (by omega)
                      rw [ra] at d3
                      rw [rb] at d4
                      clear r4 ra rb h2 r0 r1 r2
                      by_cases hu : 0 ≤ up ls (k : Int)
                      · obtain ⟨u, hu1, hu2, -⟩ := up_nat VY.out hk hu
                        have du := rc hu
                        rw [hu1] at D0' du
                        have hu3 : (u : Int) < (ls.length : Int) := by omega
                        obtain ⟨adu, qu, dU⟩ := Kd.at_int hly1.out (u : Int) (by omega) hu3
                        rw [hq1.out] at qu
                        cases qu
                        simp only [Int.toNat_natCast] at dU
                        rw [du] at dU
                        have hub : decide ((0 : Int) ≤ (u : Int)) = true := decide_eq_true (by omega)
                        clear du hu1 rc hu
                        go_wp2_with fail
                        go_quiet (fail)
                        go_wp2_with fail
                        by_cases hx : rd X.st (k : Int) = 2
                        · rw [hx] at d5
                          clear hx HPAIR
                          go_quiet (fail)
                          go_wp2_with fail
                          go_roundg m2
                          case measure => omega
                          case rel => exact ⟨k + 1, Wk, by go_num, by omega, ⟨HC.out.next⟩, ⟨(by repeat (first | exact S.out | apply Sv.setw | apply Sv.alloc | apply Sv.drewN | apply Sv.drew))⟩⟩
                        · have hxb : (rd X.st (k : Int) != 2) = true := by simp [hx]
                          obtain ⟨pa, pb⟩ := HPAIR.out hx
                          have g1 : decide (rd Wk (k : Int) < 0) = false := decide_eq_false (by omega)
                          have g2 : IntKind.i64.wrap (Y.tm - rd Wk (k : Int)) = Y.tm - rd Wk (k : Int) := IntWalk.i64_in _ (by omega)
                          have g3 : decide (Y.tm - rd Wk (k : Int) < warn ls (k : Int)) = false := decide_eq_false (by omega)
                          clear hx HPAIR pa pb
                          go_quiet (fail)
                          go_wp2_with fail
                          go_roundg m2
                          case measure => omega
                          case rel => exact ⟨k + 1, Wk, by go_num, by omega, ⟨HC.out.next⟩, ⟨(by repeat (first | exact S.out | apply Sv.setw | apply Sv.alloc | apply Sv.drewN | apply Sv.drew))⟩⟩
                      · have hub : decide ((0 : Int) ≤ up ls (k : Int)) = false := decide_eq_false hu
                        clear rc hu
                        go_wp2_with fail
                        go_quiet (fail)
                        go_wp2_with fail
                        by_cases hx : rd X.st (k : Int) = 2
                        · rw [hx] at d5
                          clear hx HPAIR
                          go_quiet (fail)
                          go_wp2_with fail
                          go_roundg m2
                          case measure => omega
                          case rel => exact ⟨k + 1, Wk, by go_num, by omega, ⟨HC.out.next⟩, ⟨(by repeat (first | exact S.out | apply Sv.setw | apply Sv.alloc | apply Sv.drewN | apply Sv.drew))⟩⟩
                        · have hxb : (rd X.st (k : Int) != 2) = true := by simp [hx]
                          obtain ⟨pa, pb⟩ := HPAIR.out hx
                          have g1 : decide (rd Wk (k : Int) < 0) = false := decide_eq_false (by omega)
                          have g2 : IntKind.i64.wrap (Y.tm - rd Wk (k : Int)) = Y.tm - rd Wk (k : Int) := IntWalk.i64_in _ (by omega)
                          have g3 : decide (Y.tm - rd Wk (k : Int) < warn ls (k : Int)) = false := decide_eq_false (by omega)
                          clear hx HPAIR pa pb
                          go_quiet (fail)
                          go_wp2_with fail
                          go_roundg m2
                          case measure => omega
                          case rel => exact ⟨k + 1, Wk, by go_num, by omega, ⟨HC.out.next⟩, ⟨(by repeat (first | exact S.out | apply Sv.setw | apply Sv.alloc | apply Sv.drewN | apply Sv.drew))⟩⟩
                    · clear r4
                      by_cases h0 : rd Y.st (k : Int) = 0
                      · have H0 := Aside0.mk h0
                        rw [h0] at d1
                        clear h0 h2 r0 r1 r2
                        go_wp2_with fail
                        go_quiet (fail)
                        go_wp2_with fail
                        go_quiet (fail)
                        go_wp2_with fail
                        go_roundg m2
                        case measure => omega
                        case rel => exact ⟨k + 1, Wk.set k (-1), by go_num, by omega, ⟨HC.out.clear hk H0.out⟩, ⟨(by repeat (first | exact S.out | apply Sv.setw | apply Sv.alloc | apply Sv.drewN | apply Sv.drew))⟩⟩
                      · have h1 : rd Y.st (k : Int) = 1 := by omega
                        rw [h1] at d1
                        clear h0 h1 h2 r0 r1 r2
                        go_wp2_with fail
                        go_quiet (fail)
                        go_wp2_with fail
                        go_quiet (fail)
                        go_wp2_with fail
                        go_roundg m2
                        case measure => omega
                        case rel => exact ⟨k + 1, Wk, by go_num, by omega, ⟨HC.out.next⟩, ⟨(by repeat (first | exact S.out | apply Sv.setw | apply Sv.alloc | apply Sv.drewN | apply Sv.drew))⟩⟩
                  · obtain rfl : k = ls.length := by omega
                    go_wp2_with fail
                    go_roundg m
                    case measure => omega
                    case rel => exact ⟨n3 - 1, p', Y, a', Wk, (by first | go_num | (congr 1; first | omega | (unfold wrap64; omega))), by omega, by omega, D6, ⟨S.out.sw⟩, VY, ⟨HC.out.wok⟩⟩
            · obtain rfl : n3 = 0 := by omega
              go_wp2_with (go_at_call 8; (with_reducible refine (awake_calls _).mono ?_); rintro e w30 ⟨rfl, hb30⟩; have HB30 := Aside0.mk (below_step (Rw.bel (Sw.rw_ (by repeat (first | exact N.out | apply Sw.setw | apply Sw.alloc | apply Sw.drewN | apply Sw.drew)))) hb30); clear hb30)
              go_ret
              exact ⟨rfl, (by repeat (first | exact HB30.out | apply below_drew1 | apply pw_below_drewN))⟩
end Go.Proofs.Ytejmjeanhlkenaa.HandA
