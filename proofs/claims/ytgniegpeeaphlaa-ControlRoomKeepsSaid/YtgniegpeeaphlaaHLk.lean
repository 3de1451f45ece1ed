/- The law that what was synced is never lost, walked. -/
import Derived.Test.YtgniegpeeaphlaaHKw
namespace Go.Proofs.Ytgniegpeeaphlaa.HandA
open Go.RowKit Go.Proofs.Ytgniegpeeaphlaa.PR Go.Proofs.YtgniegpeeaphlaaW.PrintWords Go.Proofs.YtgniegpeeaphlaaW.PrintLast Go.Proofs.YtgniegpeeaphlaaW.PrintMore
set_option linter.unusedVariables false
set_option linter.unusedSimpArgs false

theorem put49 {w W : World} {B rk base : Nat} {x1 x2 v1 v2 : Value} {rc : Array Value} {T T2 : List Int} (hbel : Below w.heap.size w W) (hB0 : w.heap.size ≤ B) (hB : W.heap[B]? = some (.cells #[x1, x2] 49 (0, 0))) (hX : W.heap[rk]? = some (.cells rc 32 (0, 0))) (nB : B ≠ rk) (r1 : Kd.R kb 5 W base (fun _ => True) v1 T) (r2 : Kd.R kb 5 W base (fun _ => True) v2 T2) :
    Below w.heap.size w ((W.setCell ⟨B, 0, none⟩ v1).setCell ⟨B, 1, none⟩ v2) ∧ ((W.setCell ⟨B, 0, none⟩ v1).setCell ⟨B, 1, none⟩ v2).heap[B]? = some (.cells #[v1, v2] 49 (0, 0)) ∧ ((W.setCell ⟨B, 0, none⟩ v1).setCell ⟨B, 1, none⟩ v2).heap[rk]? = some (.cells rc 32 (0, 0)) ∧ Kd.R kb 5 ((W.setCell ⟨B, 0, none⟩ v1).setCell ⟨B, 1, none⟩ v2) base (fun _ => True) v1 T ∧ Kd.R kb 5 ((W.setCell ⟨B, 0, none⟩ v1).setCell ⟨B, 1, none⟩ v2) base (fun _ => True) v2 T2 :=
  ⟨below_set (below_set hbel hB0) hB0, set2 hB v1 v2, blk_far (p := ⟨B, 1, none⟩) (blk_far (p := ⟨B, 0, none⟩) hX (Ne.symm nB) v1) (Ne.symm nB) v2, R_setT (R_setT r1 hB (by decide)) (blk_set hB 0 v1) (by decide), R_setT (R_setT r2 hB (by decide)) (blk_set hB 0 v1) (by decide)⟩
set_option maxHeartbeats 16000000 in
set_option maxRecDepth 100000 in
theorem keeps_calls (L : List Int) (A0 : Option Addr) (c0 : Nat) (kp br : Int) (w : World) (hr0 : Kd.C (Kd.int .i64) w A0 L.length L) (hc0 : L.length ≤ c0) :
    Calls Try.prog 7 #[.slice A0 L.length c0, .int .i64 kp, .int .u8 br] w fun e w' => e = .returned (.bool true) ∧ Below w.heap.size w w' := by
  have HR0 := Aside0.mk hr0
  have HC0 := Aside0.mk hc0
  have hu32 := Try.underlying32
  have hu49 := Try.underlying49
  clear hr0 hc0
  by_cases hli : ¬ (L.length : Int) ≤ 400
  · have hlf : made_Light.f L = some false := by unfold made_Light.f; rw [decide_eq_false hli]
    go_enter Try.func7, Try.ntmps7
    go_wp2_with (first | (go_at_call 8; (with_reducible refine (made_Light.calls A0 c0 L false _ HR0.out HC0.out hlf).mono ?_); rintro e w0 ⟨rfl, ⟨nq0, rfl⟩⟩) | (go_at_call 9; (with_reducible refine (awake_calls _).mono ?_); rintro e w1 ⟨rfl, hb1⟩; have HB1 := Aside0.mk (below_step (pw_below_drewN (Below.refl w.heap.size w) nq0) hb1); clear hb1))
    go_ret
    exact ⟨rfl, (by repeat (first | exact HB1.out | apply below_drew1 | apply pw_below_drewN))⟩
  rw [Decidable.not_not] at hli
  have hlt : made_Light.f L = some true := by unfold made_Light.f; rw [decide_eq_true hli]
  obtain ⟨n0, p1, hn0, n0a, n0b, hd1⟩ := next_ok (DiceOk.zero hli) 12 (by omega) (by omega)
  obtain ⟨n0, rfl⟩ : ∃ q : Nat, n0 = (q : Int) := ⟨n0.toNat, by omega⟩
  have HN0 := Aside0.mk hn0
  have HD1 := Aside0.mk hd1
  clear hn0 hd1 hli
  go_enter Try.func7, Try.ntmps7
  go_upto_region 5 with (first | (go_at_call 8; (with_reducible refine (made_Light.calls A0 c0 L true _ HR0.out HC0.out hlt).mono ?_); rintro e w0 ⟨rfl, ⟨nq0, rfl⟩⟩) | (go_at_call 10; (with_reducible refine (made_Roll.calls A0 c0 L L 0 w _ (pw_below_drewN (Below.refl w.heap.size w) nq0) HR0.out HC0.out rfl).mono ?_); rintro e w1 ⟨g, rfl, hi, hb, -⟩; have M1 := Aside0.mk (Kw.first hi hb); clear hi hb))
  generalize w1.alloc (Obj.cells #[.slice none 0 0, .slice none 0 0] 49) = W1 at M1 ⊢
  generalize w1.heap.size = bx at M1 ⊢
  go_wp2_with (go_at_call 11; (with_reducible refine (made_Dice_Next.calls g L 0 12 (n0 : Int) p1 w _ (Kw.dice (by repeat (first | exact M1.out | apply Kw.alloc | apply Kw.drewN | apply Kw.drew))) (Kw.bel (by repeat (first | exact M1.out | apply Kw.alloc | apply Kw.drewN | apply Kw.drew))) HN0.out).mono ?_); rintro e w2 ⟨rfl, hi, hb, hk⟩; have M2 := Aside0.mk (Kw.throw (by repeat (first | exact M1.out | apply Kw.alloc | apply Kw.drewN | apply Kw.drew)) hi hb hk); clear hi hb hk)
  go_loopg [9, 10, 11] 12 (fun m v9 v10 v11 w' => ∃ (ls : List S32) (s n : Nat) (p : Int) (A1 : Option Addr) (c1 n1 : Nat) (A2 : Option Addr) (c2 n2 : Nat), v10 = .int .i64 s ∧ v11 = .int .i64 n ∧ n ≤ m ∧ n + ls.length ≤ 11 ∧ s ≤ ls.length ∧ Aside0 (∀ r ∈ ls, Rok r) ∧ Aside0 (DiceOk L p) ∧ Aside0 (Kw w w' g L p bx (.slice A1 n1 c1) (.slice A2 n2 c2) (allB (ls.take s)) (allB (ls.drop s)) v9 ls))
  case atStart => exact ⟨[], 0, n0, p1, none, 0, 0, none, 0, 0, rfl, rfl, by omega, by simp; omega, by simp, ⟨fun r h => by simp at h⟩, HD1, M2⟩
  case round =>
    clear M2
    obtain ⟨ls, s, n, p, A1, c1, n1, A2, c2, n2, rfl, rfl, hm, h11, hs, HOK, HD, M⟩ := hrel
    obtain ⟨Al, cl, rfl⟩ := Kd.R_slice M.out.rl
    have HL1 := Aside0.mk (allB_len (ls.take s))
    have HL2 := Aside0.mk (allB_len (ls.drop s))
    have HT1 := Aside0.mk (allB_byt (ls.take s))
    have HRT := Aside0.mk (show readF (allB (ls.take s)) = ls.take s by have := readF_all (rest := []) (fun r hr => HOK.out r (List.mem_of_mem_take hr)) (show (ls.take s).length ≤ 2048 by rw [List.length_take]; omega) (by simp); rw [List.append_nil] at this; exact this)
    have HTS := Aside0.mk (show (ls.take s).length = s by rw [List.length_take]; omega)
    have HDS := Aside0.mk (show (ls.drop s).length = ls.length - s from List.length_drop)
    by_cases hn : 0 < n
    · obtain ⟨m, rfl⟩ : ∃ q, gk = q + 1 := ⟨gk - 1, by omega⟩
      have hn2 : (0 : Int) < (n : Int) := by omega
      obtain ⟨q1, p3, hq1, q1a, q1b, hd3⟩ := next_ok HD.out 5 (by omega) (by omega)
      obtain ⟨q2, p4, hq2, q2a, q2b, hd4⟩ := next_ok hd3 4 (by omega) (by omega)
      obtain ⟨q3, p5, hq3, q3a, q3b, hd5⟩ := next_ok hd4 4 (by omega) (by omega)
      obtain ⟨b4, p6, hq4, hd6⟩ := one_ok hd5 3 (by omega) (by omega)
      have hrv : rvB (1 + q1) q2 q3 (n : Int) = true := rvB_iff.2 ⟨⟨by omega, by omega⟩, ⟨by omega, by omega⟩, ⟨by omega, by split <;> omega⟩, ⟨by omega, by omega⟩⟩
      have HOK2 := Aside0.mk (show ∀ r ∈ ls ++ [(⟨1 + q1, q2, q3, n⟩ : S32)], Rok r from fun r hr => by
            rcases List.mem_append.1 hr with hr | hr
            · exact HOK.out r hr
            · rw [List.mem_singleton.1 hr]; exact hrv)
      have sq : IntKind.i64.wrap (1 + q1) = 1 + q1 := IntWalk.i64_in _ (by omega)
      have HRV := Aside0.mk hrv
      have HD2 := Aside0.mk (show allB (ls.drop s) ++ bytesF (1 + q1) q2 q3 n = allB ((ls ++ [(⟨1 + q1, q2, q3, n⟩ : S32)]).drop s) by
            rw [List.drop_append_of_le_length hs, allB_append]
            simp [allB, recB])
      have HTK := Aside0.mk (show (ls ++ [(⟨1 + q1, q2, q3, n⟩ : S32)]).take s = ls.take s from List.take_append_of_le_length hs)
      have Q1 := Aside0.mk hq1
      have Q2 := Aside0.mk hq2
      have Q3 := Aside0.mk hq3
      have Q4 := Aside0.mk hq4
      have D6 := Aside0.mk hd6
      clear hq1 hq2 hq3 hq4 hd3 hd4 hd5 hd6 hrv
      go_upto_region 11 with (first | (go_at_call 11; (with_reducible refine (made_Dice_Next.calls g L p 5 q1 p3 w _ (Kw.dice (by repeat (first | exact M.out | apply Kw.alloc | apply Kw.drewN | apply Kw.drew))) (Kw.bel (by repeat (first | exact M.out | apply Kw.alloc | apply Kw.drewN | apply Kw.drew))) Q1.out).mono ?_); rintro e w3 ⟨rfl, hi, hb, hk⟩; have M3 := Aside0.mk (Kw.throw (by repeat (first | exact M.out | apply Kw.alloc | apply Kw.drewN | apply Kw.drew)) hi hb hk); clear hi hb hk) | (go_at_call 11; (with_reducible refine (made_Dice_Next.calls g L p3 4 q2 p4 w _ (Kw.dice (by repeat (first | exact M3.out | apply Kw.alloc | apply Kw.drewN | apply Kw.drew))) (Kw.bel (by repeat (first | exact M3.out | apply Kw.alloc | apply Kw.drewN | apply Kw.drew))) Q2.out).mono ?_); rintro e w4 ⟨rfl, hi, hb, hk⟩; have M4 := Aside0.mk (Kw.throw (by repeat (first | exact M3.out | apply Kw.alloc | apply Kw.drewN | apply Kw.drew)) hi hb hk); clear hi hb hk) | (go_at_call 11; (with_reducible refine (made_Dice_Next.calls g L p4 4 q3 p5 w _ (Kw.dice (by repeat (first | exact M4.out | apply Kw.alloc | apply Kw.drewN | apply Kw.drew))) (Kw.bel (by repeat (first | exact M4.out | apply Kw.alloc | apply Kw.drewN | apply Kw.drew))) Q3.out).mono ?_); rintro e w5 ⟨rfl, hi, hb, hk⟩; have M5 := Aside0.mk (Kw.throw (by repeat (first | exact M4.out | apply Kw.alloc | apply Kw.drewN | apply Kw.drew)) hi hb hk); clear hi hb hk))
      have hbr := Aside0.mk (blk_new w5 (Obj.cells #[Value.int .i64 (1 + q1), Value.int .i64 q2, Value.int .i64 q3, Value.int .i64 n] 32))
      have MX := Aside0.mk (Kw.alloc (by repeat (first | exact M5.out | apply Kw.alloc | apply Kw.drewN | apply Kw.drew)) (Obj.cells #[Value.int .i64 (1 + q1), Value.int .i64 q2, Value.int .i64 q3, Value.int .i64 n] 32))
      generalize w5.alloc (Obj.cells #[Value.int .i64 (1 + q1), Value.int .i64 q2, Value.int .i64 q3, Value.int .i64 n] 32) = W5 at hbr MX ⊢
      have HBX := Aside0.mk (show w5.heap.size ≠ bx from fun q => by have h1 := hbr.out; have h2 := MX.out.box; rw [q, h2] at h1; simp at h1)
      generalize w5.heap.size = rk at hbr HBX ⊢
      obtain ⟨x0, _, x1, _, x2, _, x3, _⟩ := box4 hbr.out
      obtain ⟨y0, _, y1, _⟩ := box2 MX.out.box
      clear M M3 M4 M5
      obtain ⟨D2, hD2⟩ : ∃ x, allB ((ls ++ [(⟨1 + q1, q2, q3, n⟩ : S32)]).drop s) = x := ⟨_, rfl⟩
      rw [hD2] at HD2
      have HD3 := Aside0.mk hD2
      clear hD2
      go_upto_region 13 with (go_at_call 25; (with_reducible refine (write_at A1 c1 n1 (allB (ls.take s)) A2 c2 n2 (allB (ls.drop s)) (1 + q1) q2 q3 n w.heap.size D2 _ MX.out.r1 MX.out.r2 (by rw [HL1.out, HL2.out, HTS.out, HDS.out]; omega) HT1.out HRV.out (by rw [HRT.out, HL1.out]) HD2.out).mono ?_); rintro e w7 ⟨B1, d1, B2, d2, rfl, r1, r2, hb⟩; have M7 := Aside0.mk (MX.out.put hb r1 r2); have HX7 := Aside0.mk (blk_below hbr.out hb); obtain ⟨o0, u0, o1, u1⟩ := box2 (blk_below MX.out.box hb); clear r1 r2 hb)
      have hbr7 := blk_far (p := ⟨bx, 1, none⟩) (blk_far (p := ⟨bx, 0, none⟩) HX7.out HBX.out (.slice B1 n1 d1)) HBX.out (.slice B2 D2.length d2)
      generalize (w7.setCell ⟨bx, 0, none⟩ (.slice B1 n1 d1)).setCell ⟨bx, 1, none⟩ (.slice B2 D2.length d2) = W7 at M7 hbr7 ⊢
      clear x0 x1 x2 x3 y0 y1 o0 o1 u0 u1 MX
      obtain ⟨x0, _, x1, _, x2, _, x3, _⟩ := box4 hbr7
      clear hbr7
      go_upto_if 56 with (first | ((with_reducible refine gate_builtin (b := .append) (xs := #[.tmp 51, .tmp 53]) rfl ?_); at_builtin; refine Kd.R_append k32 (w0 := w) w.heap.size rfl (.tmp 51) (.tmp 53) 27 32 (.agg #[(.int .i64 0), (.int .i64 0), (.int .i64 0), (.int .i64 0)]) 32 rfl Try.underlying27 info32 rfl (by decide) (by omega) (.slice Al ls.length cl) ls (⟨1 + q1, q2, q3, n⟩ : S32) [.int .i64 (1 + q1), .int .i64 q2, .int .i64 q3, .int .i64 n] (fun _ => True) (fun _ => False) rfl (by first | rfl | (rw [World.size_alloc]; rfl)) ?aP (fun _ hk => hk.elim) (fun _ _ => trivial) (Kw.rl (by repeat (first | exact M7.out | apply Kw.alloc | apply Kw.drewN | apply Kw.drew))) (Kw.bel (by repeat (first | exact M7.out | apply Kw.alloc | apply Kw.drewN | apply Kw.drew))) (Kw.bel (by repeat (first | exact M7.out | apply Kw.alloc | apply Kw.drewN | apply Kw.drew))).size (by omega) ?_; (case aP => exact k32_mkM _ _ _ (⟨1 + q1, q2, q3, n⟩ : S32)); intro v8 w8 ho hb hg hat; obtain ⟨A8, c8, rfl⟩ : ∃ A c, v8 = .slice A (ls.length + 1) c := (by obtain ⟨A, c, e⟩ := Kd.R_slice ho; exact ⟨A, c, by rw [e]; simp⟩); have M8 := Aside0.mk (Kw.appL (by repeat (first | exact M7.out | apply Kw.alloc | apply Kw.drewN | apply Kw.drew)) ho hb hg); clear ho hb hg hat) | (go_at_call 23; (with_reducible refine (made_Dice_One.calls g L p5 3 b4 p6 w _ (Kw.dice (by repeat (first | exact M8.out | apply Kw.alloc | apply Kw.drewN | apply Kw.drew))) (Kw.bel (by repeat (first | exact M8.out | apply Kw.alloc | apply Kw.drewN | apply Kw.drew))) Q4.out).mono ?_); rintro e w9 ⟨rfl, hi, hb, hk⟩; have M9 := Aside0.mk (Kw.throw (by repeat (first | exact M8.out | apply Kw.alloc | apply Kw.drewN | apply Kw.drew)) hi hb hk); clear hi hb hk))
      clear x0 x1 x2 x3
      have hmx : n - 1 ≤ m := by omega
      cases b4 with
      | false =>
        go_wp2_with fail
        go_roundg m
        case measure => omega
        case rel => exact ⟨ls ++ [(⟨1 + q1, q2, q3, n⟩ : S32)], s, n - 1, p6, B1, d1, n1, B2, d2, D2.length, rfl, (by first | go_num | (congr 1; first | omega | (unfold wrap64; omega))), by omega, by simp; omega, by simp; omega, HOK2, D6, ⟨by rw [HTK.out, HD3.out]; exact (by repeat (first | exact M9.out | apply Kw.alloc | apply Kw.drewN | apply Kw.drew))⟩⟩
      | true =>
        obtain ⟨y0, _, y1, _⟩ := box2 M9.out.box
        have HSL := Aside0.mk (show allB (ls.take s) ++ D2 = allB (ls ++ [(⟨1 + q1, q2, q3, n⟩ : S32)]) by rw [← HD3.out, ← HTK.out, ← allB_append, List.take_append_drop])
        have HLN := Aside0.mk (show (allB (ls.take s)).length + D2.length ≤ 60000 by rw [← HD3.out, HL1.out, HTS.out, allB_len, List.length_drop, List.length_append, List.length_singleton]; omega)
        obtain ⟨D4, hD4⟩ : ∃ x, allB (ls ++ [(⟨1 + q1, q2, q3, n⟩ : S32)]) = x := ⟨_, rfl⟩
        rw [hD4] at HSL
        have HD4 := Aside0.mk hD4
        clear hD4
        go_wp2_with (go_at_call 26; (with_reducible refine (sync_at B1 d1 n1 (allB (ls.take s)) B2 d2 D2.length D2 w.heap.size D4 _ M9.out.r1 M9.out.r2 HLN.out HSL.out).mono ?_); rintro e w10 ⟨B5, d5, rfl, r1, hb⟩; have MA := Aside0.mk (M9.out.put hb r1 (Kd.R_nil _ _ _ _ _)); obtain ⟨o0, u0, o1, u1⟩ := box2 (blk_below M9.out.box hb); clear r1 hb)
        go_roundg m
        case measure => omega
        case rel => exact ⟨ls ++ [(⟨1 + q1, q2, q3, n⟩ : S32)], (ls ++ [(⟨1 + q1, q2, q3, n⟩ : S32)]).length, n - 1, p6, B5, d5, D4.length, none, 0, 0, (by first | go_num | simp), (by first | go_num | (congr 1; first | omega | (unfold wrap64; omega))), by omega, by simp; omega, by simp, HOK2, D6, ⟨by rw [List.take_length, List.drop_length, HD4.out]; exact (by repeat (first | exact MA.out | apply Kw.alloc | apply Kw.drewN | apply Kw.drew))⟩⟩
    · have hn0 : ¬ (0 : Int) < (n : Int) := by omega
      obtain ⟨kq, hkq, -, -⟩ := mod_ok kp 200 (by omega) (by omega)
      obtain ⟨q, rest, hq1, hq2, hX, hrd⟩ := crash_read hs HOK.out (by omega) kq br
      have HXQ := Aside0.mk (show (allB (ls.take q) ++ rest).take (32 * q) = allB (ls.take q) from List.take_left' (by rw [allB_len, List.length_take]; omega))
      obtain ⟨X, hXe⟩ : ∃ X, allB (ls.take q) ++ rest = X := ⟨_, rfl⟩
      rw [hXe] at hX hrd HXQ
      clear hXe
      have HXB := Aside0.mk (show Byt X by rw [← hX]; exact HT1.out.append (rest_byt (allB_byt _) _ _))
      have HXL := Aside0.mk (show X.length ≤ 50000 by rw [← hX, List.length_append, rest_len, HL1.out, HTS.out]; have := keep_le (allB (ls.drop s)).length kq; have h2 := HL2.out; have h3 := HDS.out; omega)
      have HG := Aside0.mk (fun (k : Nat) (h : k < q) => show (ls.take q)[k]? = ls[k]? from List.getElem?_take_of_lt h)
      have HGK := Aside0.mk (show ∀ r ∈ ls.take q, Rok r from fun r hr => HOK.out r (List.mem_of_mem_take hr))
      obtain ⟨G, hGe⟩ : ∃ G, ls.take q = G := ⟨_, rfl⟩
      have HGL := Aside0.mk (show G.length = q by rw [← hGe, List.length_take]; omega)
      rw [hGe] at hrd HXQ HG HGK
      clear hGe
      have HX := Aside0.mk hX
      have HRD := Aside0.mk hrd
      have HK := Aside0.mk hkq
      clear hX hrd hkq
      go_upto_region 18 with fail
      have M0 := M.out.drew
      refine start_ (n := 6) (S := (fun w' => w'.cell? ⟨bx, 0, none⟩ = some (.slice A1 n1 c1) ∧ w'.cell? ⟨bx, 1, none⟩ = some (.slice A2 n2 c2))) (ds := [5]) #[false, false, false, false, false, false] (by kernel_rfl) rfl rfl ⟨(blk_cell M0.box 0).trans rfl, (blk_cell M0.box 1).trans rfl⟩ (fun hHeld => ?_)
      refine take_ (i := 0) (N := some 61) (v := ?_) (a' := ?_) #[true, false, false, false, false, false] rfl rfl (by kernel_rfl) (fun _ _ _ h => h) (Or.inl ⟨by rfl, ?_⟩) hHeld ?_ ?_
      rotate_left; · rintro w' ⟨s0, s1⟩; go_simp; with_reducible rfl
      rotate_left; · simp only [Act.put, List.setIfInBounds_toArray, List.set_cons_zero, List.set_cons_succ, i64_w, i32_w]; rfl
      refine pure_ (i := 1) (N := some 62) (v := ?_) (a' := ?_) #[true, true, false, false, false, false] rfl rfl (by kernel_rfl) (fun _ _ _ h => h) (Or.inl ⟨by rfl, ?_⟩) ?_ ?_
      rotate_left; · intro w'; go_simp; with_reducible rfl
      rotate_left; · simp only [Act.put, List.setIfInBounds_toArray, List.set_cons_zero, List.set_cons_succ, i64_w, i32_w]; rfl
      refine pure_ (i := 3) (N := some 64) (v := ?_) (a' := ?_) #[true, true, false, true, false, false] rfl rfl (by kernel_rfl) (fun _ _ _ h => h) (Or.inl ⟨by rfl, ?_⟩) ?_ ?_
      rotate_left; · intro w'; go_simp; with_reducible rfl
      rotate_left; · simp only [Act.put, List.setIfInBounds_toArray, List.set_cons_zero, List.set_cons_succ, i64_w, i32_w]; rfl
      clear hHeld
      refine one_ (i := 2) (N := some 63) #[true, true, true, true, false, false] rfl rfl (by kernel_rfl) (by decide) (fun K hK => ?_)
      refine goesF_ Try.func15 (by kernel_rfl) rfl #[.int .i64 kp, .int .i64 200] (by rfl) rfl rfl rfl (by simp only [List.map_toArray, List.map_cons, List.map_nil]; rfl) ?_
      refine (made_Mod.calls _ _ _ _ HK.out).mono ?_
      rintro e W6 ⟨rfl, hd⟩
      obtain ⟨n6, rfl⟩ := hd.out
      refine ⟨_, rfl, ?_⟩
      have M6 := M0.drewN n6
      refine hK.out _ _ ⟨(blk_cell M6.box 0).trans rfl, (blk_cell M6.box 1).trans rfl⟩ (fun hHeld => ?_)
      clear hK K hHeld
      refine norm_ (a' := ?_) ?_ ?_
      rotate_left
      · show Act.put _ (some 63) _ = _; simp only [Act.put, List.setIfInBounds_toArray, List.set_cons_zero, List.set_cons_succ, i64_w, i32_w]; rfl
      refine one_ (i := 4) (N := some 65) #[true, true, true, true, true, false] rfl rfl (by kernel_rfl) (by decide) (fun K hK => ?_)
      refine goesF_ Try.func27 (by kernel_rfl) rfl #[.agg #[.slice A1 n1 c1, .slice A2 n2 c2], .int .i64 kq, .int .u8 br] (by rfl) rfl rfl rfl (by simp only [List.map_toArray, List.map_cons, List.map_nil]; rfl) ?_
      refine (crash_at A1 c1 n1 (allB (ls.take s)) A2 c2 n2 (allB (ls.drop s)) kq br w.heap.size X _ M6.r1 M6.r2 (by rw [HL1.out, HL2.out, HTS.out, HDS.out]; omega) HX.out).mono ?_
      rintro e W7 ⟨B1, d1, rfl, r1, hb⟩
      refine ⟨_, rfl, ?_⟩
      have M7 := M6.below hb
      have M8 := Aside0.mk (M6.put hb r1 (Kd.R_nil _ _ _ _ _))
      clear hb r1
      refine hK.out _ _ ⟨(blk_cell M7.box 0).trans rfl, (blk_cell M7.box 1).trans rfl⟩ (fun hHeld => ?_)
      clear hK K hHeld
      refine norm_ (a' := ?_) ?_ ?_
      rotate_left
      · show Act.put _ (some 65) _ = _; simp only [Act.put, List.setIfInBounds_toArray, List.set_cons_zero, List.set_cons_succ, i64_w, i32_w]; rfl
      refine last_ (i := 5) (N := none) #[true, true, true, true, true, true] rfl rfl (by kernel_rfl) (by decide) (fun K hK => ?_)
      obtain ⟨o0, u0, o1, u1⟩ := box2 M7.box
      refine skip_ (w1 := ?_) (by rfl) rfl ?_ ?_
      rotate_left
      · go_simp; rfl
      refine hK.out _ _ ?_
      clear hK K
      refine done_ (by kernel_rfl) ?_
      generalize (W7.setCell ⟨bx, 0, none⟩ (.slice B1 X.length d1)).setCell ⟨bx, 1, none⟩ (.slice none 0 0) = W8 at M8 ⊢
      clear M M0 M6 M7 o0 o1 u0 u1
      obtain ⟨y0, _, y1, _⟩ := box2 M8.out.box
      have g1 : ¬ (q : Int) < (s : Int) := by omega
      have g2 : ¬ (ls.length : Int) < (q : Int) := by omega
      have g3 : wrap64 (32 * (q : Int)) = 32 * (q : Int) := by unfold wrap64; omega
      have hrdc := Aside0.mk (fun (w9 : World) (h : Kd.R kb 5 w9 w.heap.size (fun _ => True) (.slice B1 X.length d1) X) => by have h9 := readR_at B1 d1 X.length w.heap.size X G w9 h HXB.out (by have := HXL.out; omega) HRD.out; rw [HGL.out, show ((32 * q : Nat) : Int) = 32 * (q : Int) from by omega] at h9; exact h9)
      go_upto_region 22 with (go_at_call 14; (with_reducible refine (hrdc.out _ M8.out.r1).mono ?_); rintro e w9 ⟨A9, c9, rfl, hr, hb⟩; have M9 := Aside0.mk (M8.out.below hb); have R9 := Aside0.mk (Kd.R_lower hr M8.out.bel.size); clear hr hb; obtain ⟨z0, _, z1, _⟩ := box2 M9.out.box)
      go_wp2_with fail
      clear z0 z1 y0 y1 M8 hrdc
      go_loopg [16] (q + 1) (fun m v16 w' => ∃ (i : Int), v16 = .int .i64 i ∧ (q : Int) - i ≤ m ∧ i ≤ q ∧ 0 ≤ i ∧ Aside0 (Kw w w' g L p bx (.slice B1 X.length d1) (.slice none 0 0) X [] (.slice Al ls.length cl) ls) ∧ Aside0 (Kd.R k32 32 w' w.heap.size (fun _ => True) (.slice A9 q c9) G))
      case atStart => exact ⟨0, rfl, by omega, by omega, by omega, M9, R9⟩
      case round =>
        clear M9 R9
        obtain ⟨i, rfl, hmi, hiq, hip, M, R⟩ := hrel
        by_cases hi : i < (q : Int)
        · obtain ⟨m, rfl⟩ : ∃ q, gk = q + 1 := ⟨gk - 1, by omega⟩
          have hi2 : i < (q : Int) := by omega
          have hi3 : i < (ls.length : Int) := by omega
          have hi0 : (0 : Int) ≤ i := by omega
          obtain ⟨ad1, e1, a0, a1, a2, a3⟩ := at_T32 (Kd.R_reads' R.out).2.2 i (by omega) (by have := HGL.out; omega)
          obtain ⟨ad2, e2, b0, b1, b2, b3⟩ := at_T32 (Kd.R_reads' M.out.rl).2.2 i (by omega) (by omega)
          have hgl : rd_T32 G i = rd_T32 ls i := by unfold rd_T32; rw [List.getD_eq_getElem?_getD, List.getD_eq_getElem?_getD, HG.out i.toNat (by omega)]
          rw [hgl] at a0 a1 a2 a3
          clear hgl
          generalize rd_T32 ls i = rr at a0 a1 a2 a3 b0 b1 b2 b3
          cases e1
          cases e2
          have d1 : decide (i < (q : Int)) = true := decide_eq_true hi2
          have d2 : decide (0 ≤ i) = true := decide_eq_true hi0
          have d3 : decide (i < (ls.length : Int)) = true := decide_eq_true hi3
          replace hi2 := eq_true hi2
          replace hi3 := eq_true hi3
          replace hi0 := eq_true hi0
          go_upto_region 25 with fail
          go_quiet (fail)
          go_wp2
          go_roundg m
          case measure => omega
          case rel => exact ⟨i + 1, (by first | go_num | (congr 1; first | omega | (unfold wrap64; omega))), by omega, by omega, by omega, ⟨by repeat (first | exact M.out | apply Kw.alloc | apply Kw.drewN | apply Kw.drew)⟩, ⟨by repeat (first | exact R.out | apply Kd.R_alloc | apply Kd.R_drewN | apply Kd.R_drew)⟩⟩
        · have hi2 : ¬ i < (q : Int) := by omega
          have HQ5 := Aside0.mk (show (q : Int) < ((q + 1 : Nat) : Int) by omega)
          have HQ6 := Aside0.mk (show (0 : Int) ≤ (q : Int) by omega)
          have HG5 := Aside0.mk (show wrap64 ((q : Int) + 1) = ((q + 1 : Nat) : Int) by unfold wrap64; omega)
          have HG6 := Aside0.mk (show IntKind.i64.wrap ((q : Int) + 1) = ((q + 1 : Nat) : Int) by rw [IntWalk.i64_in _ (by omega)]; omega)
          have hok9 : rvB 3 0 2 99 = true := by rfl
          have HOK9 := Aside0.mk hok9
          have HGM := Aside0.mk (show ∀ r ∈ G ++ [(⟨3, 0, 2, 99⟩ : S32)], Rok r from fun r hr => by
          rcases List.mem_append.1 hr with hr | hr
          · exact HGK.out r hr
          · rw [List.mem_singleton.1 hr]; exact hok9)
          clear hok9
          have HRG := Aside0.mk (show readF (allB G) = G by have := readF_all (rest := []) HGK.out (by have := HGL.out; omega) (by simp); rw [List.append_nil] at this; exact this)
          have HRM := Aside0.mk (show readF (allB (G ++ [(⟨3, 0, 2, 99⟩ : S32)])) = G ++ [(⟨3, 0, 2, 99⟩ : S32)] by have := readF_all (rest := []) HGM.out (by rw [List.length_append, List.length_singleton, HGL.out]; omega) (by simp); rw [List.append_nil] at this; exact this)
          have HBM := Aside0.mk (allB_byt (G ++ [(⟨3, 0, 2, 99⟩ : S32)]))
          have HLM := Aside0.mk (allB_len (G ++ [(⟨3, 0, 2, 99⟩ : S32)]))
          have HTL := Aside0.mk (show (allB G).length = 32 * q by rw [allB_len, HGL.out])
          have HTB := Aside0.mk (allB_byt G)
          have HT3 := Aside0.mk (show allB G ++ bytesF 3 0 2 99 = allB (G ++ [(⟨3, 0, 2, 99⟩ : S32)]) by rw [allB_append]; simp [allB, recB])
          have HN2 := Aside0.mk (bytes_len 3 0 2 99)
          have HE2 := Aside0.mk (show ([] : List Int) ++ bytesF 3 0 2 99 = bytesF 3 0 2 99 from rfl)
          have HH := Aside0.mk (show rd_T32 (G ++ [(⟨3, 0, 2, 99⟩ : S32)]) (q : Int) = ⟨3, 0, 2, 99⟩ by unfold rd_T32; rw [List.getD_eq_getElem?_getD, Int.toNat_natCast, ← HGL.out]; simp)
          have HHL := Aside0.mk (show (G ++ [(⟨3, 0, 2, 99⟩ : S32)]).length = q + 1 by rw [List.length_append, List.length_singleton, HGL.out])
          obtain ⟨H, hH⟩ : ∃ x, G ++ [(⟨3, 0, 2, 99⟩ : S32)] = x := ⟨_, rfl⟩
          rw [hH] at HRM HBM HLM HT3 HH HHL
          clear hH HGM
          obtain ⟨N5, hN5⟩ : ∃ x, q + 1 = x := ⟨_, rfl⟩
          rw [hN5] at HHL HQ5 HG5 HG6
          have HN5 := Aside0.mk hN5
          clear hN5
          rw [HHL.out] at HLM
          obtain ⟨L3, hL3⟩ : ∃ x, allB H = x := ⟨_, rfl⟩
          rw [hL3] at HRM HBM HLM HT3
          clear hL3
          obtain ⟨T, hT⟩ : ∃ x, allB G = x := ⟨_, rfl⟩
          rw [hT] at HXQ HRG HTL HTB HT3
          clear hT
          obtain ⟨T2, hT2⟩ : ∃ x, bytesF 3 0 2 99 = x := ⟨_, rfl⟩
          have HT2 := Aside0.mk hT2
          rw [hT2] at HT3 HN2
          clear hT2
          go_upto_region 28 with fail
          have hbr := Aside0.mk (blk_new wr (Obj.cells #[Value.int .i64 3, Value.int .i64 0, Value.int .i64 2, Value.int .i64 99] 32))
          have MX := Aside0.mk (Kw.alloc M.out (Obj.cells #[Value.int .i64 3, Value.int .i64 0, Value.int .i64 2, Value.int .i64 99] 32))
          trace_state
          generalize wr.alloc (Obj.cells #[Value.int .i64 3, Value.int .i64 0, Value.int .i64 2, Value.int .i64 99] 32) = W5 at hbr MX ⊢
          generalize wr.heap.size = rk at hbr ⊢
          clear M R
          trace_state
          have M0 := MX.out.drew
          have X0 := blk_drew hbr.out
          refine start_ (n := 10) (S := (fun w' => w'.cell? ⟨bx, 0, none⟩ = some (.slice B1 X.length d1) ∧ w'.cell? ⟨bx, 1, none⟩ = some (.slice none 0 0) ∧ w'.cell? ⟨rk, 0, none⟩ = some (.int .i64 3) ∧ w'.cell? ⟨rk, 1, none⟩ = some (.int .i64 0) ∧ w'.cell? ⟨rk, 2, none⟩ = some (.int .i64 2) ∧ w'.cell? ⟨rk, 3, none⟩ = some (.int .i64 99))) (ds := []) #[false, false, false, false, false, false, false, false, false, false] (by kernel_rfl) rfl rfl ⟨(blk_cell M0.box 0).trans rfl, (blk_cell M0.box 1).trans rfl, (blk_cell X0 0).trans rfl, (blk_cell X0 1).trans rfl, (blk_cell X0 2).trans rfl, (blk_cell X0 3).trans rfl⟩ (fun hHeld => ?_)
          refine take_ (i := 0) (N := some 113) (v := ?_) (a' := ?_) #[true, false, false, false, false, false, false, false, false, false] rfl rfl (by kernel_rfl) (fun _ _ _ h => h) (Or.inl ⟨by rfl, ?_⟩) hHeld ?_ ?_
          rotate_left; · rintro w' ⟨s0, s1, s2, s3, s4, s5⟩; go_simp; with_reducible rfl
          rotate_left; · simp only [Act.put, List.setIfInBounds_toArray, List.set_cons_zero, List.set_cons_succ, i64_w, i32_w]; rfl
          refine take_ (i := 2) (N := some 115) (v := ?_) (a' := ?_) #[true, false, true, false, false, false, false, false, false, false] rfl rfl (by kernel_rfl) (fun _ _ _ h => h) (Or.inl ⟨by rfl, ?_⟩) hHeld ?_ ?_
          rotate_left; · rintro w' ⟨s0, s1, s2, s3, s4, s5⟩; go_simp; with_reducible rfl
          rotate_left; · simp only [Act.put, List.setIfInBounds_toArray, List.set_cons_zero, List.set_cons_succ, i64_w, i32_w]; rfl
          clear hHeld
          refine join_ (σ := Nat × (Option Addr × Nat) × (Option Addr × Nat) × (Option Addr × Nat)) 2 #[true, true, true, true, true, true, true, true, false, false] (fun B => [(114, .agg #[.slice B.2.1.1 T.length B.2.1.2, .slice none 0 0]), (116, (.tuple #[.agg #[.slice B.2.2.1.1 T.length B.2.2.1.2, .slice B.2.2.2.1 T2.length B.2.2.2.2], .int .i64 0])), (18, .pointer (some ⟨B.1, 0, none⟩)), (112, (.tuple #[.agg #[.slice B.2.2.1.1 T.length B.2.2.1.2, .slice B.2.2.2.1 T2.length B.2.2.2.2], .int .i64 0])), (117, .agg #[.slice B.2.2.1.1 T.length B.2.2.1.2, .slice B.2.2.2.1 T2.length B.2.2.2.2]), (118, .int .i64 0)]) (fun B w' => Below w.heap.size w w' ∧ w'.heap[rk]? = some (.cells #[.int .i64 3, .int .i64 0, .int .i64 2, .int .i64 99] 32 (0, 0)) ∧ w'.heap[B.1]? = some (.cells #[.slice none 0 0, .slice none 0 0] 49 (0, 0)) ∧ w.heap.size ≤ B.1 ∧ B.1 ≠ rk ∧ B.1 ≠ bx ∧ Kd.R kb 5 w' w.heap.size (fun _ => True) (.slice B.2.2.1.1 T.length B.2.2.1.2) T ∧ Kd.R kb 5 w' w.heap.size (fun _ => True) (.slice B.2.2.2.1 T2.length B.2.2.2.2) T2 ∧ w'.heap[bx]? = some (.cells #[.slice B1 X.length d1, .slice none 0 0] 49 (0, 0))) ?_ ?_
          · rintro ⟨B, ⟨Ac, cc⟩, ⟨Aw, cw⟩, ⟨Av, cv⟩⟩ W6 ⟨hbel, hX, hB, h0, nB, nB2, r1, r2, hbx⟩
            dsimp only at hB h0 nB nB2 r1 r2
            simp only [putAll, Act.put, List.setIfInBounds_toArray, List.set_cons_zero, List.set_cons_succ]
            refine one_ (i := 8) (N := none) #[true, true, true, true, true, true, true, true, true, false] rfl rfl (by kernel_rfl) (by decide) (fun K hK => ?_)
            obtain ⟨o0, u0, o1, u1⟩ := box2 hB
            refine skip_ (w1 := ?_) (by rfl) rfl ?_ ?_
            rotate_left
            · go_simp; rfl
            obtain ⟨f1, f2, f3, f4, f5⟩ := put49 hbel h0 hB hX nB r1 r2
            have hbx2 := blk_far (p := ⟨B, 1, none⟩) (blk_far (p := ⟨B, 0, none⟩) hbx (Ne.symm nB2) (.slice Aw T.length cw)) (Ne.symm nB2) (.slice Av T2.length cv)
            refine hK.out _ _ ⟨(blk_cell hbx2 0).trans rfl, (blk_cell hbx2 1).trans rfl, (blk_cell f3 0).trans rfl, (blk_cell f3 1).trans rfl, (blk_cell f3 2).trans rfl, (blk_cell f3 3).trans rfl⟩ (fun hHeld => ?_)
            clear hK K hHeld
            refine pure_ (i := 9) (N := some 19) (v := ?_) (a' := ?_) #[true, true, true, true, true, true, true, true, true, true] rfl rfl (by kernel_rfl) (fun _ _ _ h => h) (Or.inl ⟨by rfl, ?_⟩) ?_ ?_
            rotate_left; · intro w'; go_simp; with_reducible rfl
            rotate_left; · simp only [Act.put, List.setIfInBounds_toArray, List.set_cons_zero, List.set_cons_succ, i64_w, i32_w]; rfl
            refine done_ (by kernel_rfl) ?_
            have F1 := Aside0.mk f1
            have F2 := Aside0.mk f2
            have F3 := Aside0.mk f3
            have F4 := Aside0.mk f4
            have F5 := Aside0.mk f5
            generalize (W6.setCell ⟨B, 0, none⟩ (.slice Aw T.length cw)).setCell ⟨B, 1, none⟩ (.slice Av T2.length cv) = W7 at F1 F2 F3 F4 F5 ⊢
            clear f1 f2 f3 f4 f5 hbx2 o0 u0 o1 u1 hbx hbel hX hB r1 r2
            obtain ⟨y0, _, y1, _⟩ := box2 F2.out
            have hfd : ∀ (v1 v2 : Value) (W : World), (Instr.field 49 (.agg #[v1, v2]) 0).run Try.prog W = .ok v1 W := fun _ _ _ => by kernel_rfl
            go_upto_region 30 with (first | (go_at_call 26; (with_reducible refine (sync_at Aw cw T.length T Av cv T2.length T2 w.heap.size L3 _ F4.out F5.out (by rw [HTL.out, HN2.out]; omega) HT3.out).mono ?_); rintro e w10 ⟨A5, d5, rfl, r1, hb⟩; have S1 := Aside0.mk (below_step F1.out hb); have S2 := Aside0.mk (blk_below F3.out hb); have S3 := Aside0.mk r1; clear hb r1) | (go_at_call 14; (with_reducible refine (readR_at A5 d5 L3.length _ L3 H _ S3.out HBM.out (by rw [HLM.out]; have := HN5.out; omega) HRM.out).mono ?_); rw [HHL.out]; rintro e w11 ⟨A6, d6, rfl, r1, hb⟩; have U1 := Aside0.mk (below_step S1.out hb); have U2 := Aside0.mk (blk_below S2.out hb); have U3 := Aside0.mk r1; clear hb r1))
            clear hfd
            have g5 := HG5.out
            have g6 := HG6.out
            obtain ⟨ad, eA, a0, a1, a2, a3⟩ := at_T32 (Kd.R_reads' U3.out).2.2 (q : Int) HQ6.out (by rw [HHL.out]; exact HQ5.out)
            cases eA
            obtain ⟨x0, _, x1, _, x2, _, x3, _⟩ := box4 U2.out
            have hq5 := HQ5.out
            have hq6 := HQ6.out
            rw [HH.out, Int.toNat_natCast] at a0 a1 a2 a3
            clear y0 y1 F1 F2 F3 F4 F5 S1 S2 S3
            have Z2 := Aside0.mk (blk_drew U2.out)
            have Z3 := Aside0.mk (Kd.R_drew U3.out)
            go_region_held3 (fun w' => w'.cell? ⟨rk, 0, none⟩ = some (.int .i64 3) ∧ w'.cell? ⟨rk, 1, none⟩ = some (.int .i64 0) ∧ w'.cell? ⟨rk, 2, none⟩ = some (.int .i64 2) ∧ w'.cell? ⟨rk, 3, none⟩ = some (.int .i64 99) ∧ w'.cell? (ad.add (q * 4)) = some (.int .i64 3) ∧ w'.cell? ⟨(ad.add (q * 4)).block, (ad.add (q * 4)).off + 1, none⟩ = some (.int .i64 0) ∧ w'.cell? ⟨(ad.add (q * 4)).block, (ad.add (q * 4)).off + 2, none⟩ = some (.int .i64 2) ∧ w'.cell? ⟨(ad.add (q * 4)).block, (ad.add (q * 4)).off + 3, none⟩ = some (.int .i64 99)) (refine ⟨?_, ?_, ?_, ?_, ?_, ?_, ?_, ?_⟩ <;> first | assumption | go_keep) (first | (go_at_call 9; (with_reducible refine (awake_calls _).mono ?_); rintro e w12 ⟨rfl, hb⟩; have V1 := Aside0.mk (below_step (by repeat (first | exact U1.out | apply below_drew1 | apply pw_below_drewN)) hb); obtain ⟨x0, _, x1, _, x2, _, x3, _⟩ := box4 (blk_below Z2.out hb); obtain ⟨ad2, eA, a0, a1, a2, a3⟩ := at_T32 (Kd.C_below (Kd.R_reads' Z3.out).2.2 hb) (q : Int) HQ6.out (by rw [HHL.out]; exact HQ5.out); cases eA; rw [HH.out, Int.toNat_natCast] at a0 a1 a2 a3))
            go_wp2_with fail
            go_ret
            exact ⟨rfl, (by repeat (first | exact V1.out | apply below_drew1 | apply pw_below_drewN))⟩
          intro J9
          refine two_ (i := 1) (j := 7) (Ni := some 114) (Nj := some 18) #[true, true, true, false, false, false, false, false, false, false] #[true, false, true, false, false, false, false, true, false, false] rfl rfl rfl rfl (by kernel_rfl) (by decide) (by decide) (fun K hK => ?_) (fun K hK => ?_)
          rotate_left
          · refine (alloc_step (cs := #[.slice none 0 0, .slice none 0 0]) (t := 49) (by rfl) (by first | (go_simp; done) | (go_simp; rfl)) ?_)
            intro B eB W2 hB hb
            have M1 := M0.below hb
            have X1 := blk_below X0 hb
            have nB : B ≠ rk := by have := blk_lt X0; omega
            have nB2 : B ≠ bx := by have := blk_lt M0.box; omega
            have hB0 : w.heap.size ≤ B := by have := M0.bel.size; omega
            clear eB hb
            refine hK.out _ _ ⟨(blk_cell M1.box 0).trans rfl, (blk_cell M1.box 1).trans rfl, (blk_cell X1 0).trans rfl, (blk_cell X1 1).trans rfl, (blk_cell X1 2).trans rfl, (blk_cell X1 3).trans rfl⟩ (fun hHeld => ?_)
            clear hK K hHeld
            refine norm_ (a' := ?_) ?_ ?_
            rotate_left
            · show Act.put _ (some 18) _ = _; simp only [Act.put, List.setIfInBounds_toArray, List.set_cons_zero, List.set_cons_succ, i64_w, i32_w]; rfl
            refine one_ (i := 1) (N := some 114) #[true, true, true, false, false, false, false, true, false, false] rfl rfl (by kernel_rfl) (by decide) (fun K hK => ?_)
            refine goesF_ Try.func28 (by kernel_rfl) rfl #[.agg #[.slice B1 X.length d1, .slice none 0 0]] (by rfl) rfl rfl rfl (by simp only [List.map_toArray, List.map_cons, List.map_nil]; rfl) ?_
            refine (repair_at B1 d1 X.length X w.heap.size q T _ M1.r1 (by have := HXL.out; omega) HXB.out (by rw [HRD.out, HGL.out]) HXQ.out HTL.out).mono ?_
            rintro e W3 ⟨Ac, cc, rfl, hr0, hb⟩
            refine ⟨_, rfl, ?_⟩
            have M2 := M1.below hb
            have X2 := blk_below X1 hb
            have hr := Kd.R_lower hr0 M1.bel.size
            have hB2 := blk_below hB hb
            clear hb hr0
            refine hK.out _ _ ⟨(blk_cell M2.box 0).trans rfl, (blk_cell M2.box 1).trans rfl, (blk_cell X2 0).trans rfl, (blk_cell X2 1).trans rfl, (blk_cell X2 2).trans rfl, (blk_cell X2 3).trans rfl⟩ (fun hHeld => ?_)
            clear hK K hHeld
            refine norm_ (a' := ?_) ?_ ?_
            rotate_left
            · show Act.put _ (some 114) _ = _; simp only [Act.put, List.setIfInBounds_toArray, List.set_cons_zero, List.set_cons_succ, i64_w, i32_w]; rfl
            refine one_ (i := 3) (N := some 116) #[true, true, true, true, false, false, false, true, false, false] rfl rfl (by kernel_rfl) (by decide) (fun K hK => ?_)
            refine goesF_ Try.func25 (by kernel_rfl) rfl #[.agg #[.slice Ac T.length cc, .slice none 0 0], .agg #[.int .i64 3, .int .i64 0, .int .i64 2, .int .i64 99]] (by rfl) rfl rfl rfl (by simp only [List.map_toArray, List.map_cons, List.map_nil]; rfl) ?_
            refine (write_at Ac cc T.length T none 0 0 [] 3 0 2 99 w.heap.size T2 _ hr (Kd.R_nil _ _ _ _ _) (by rw [HTL.out]; simp; omega) HTB.out HOK9.out (by rw [HRG.out, HTL.out, HGL.out]) (by rw [HE2.out, HT2.out])).mono ?_
            rintro e W4 ⟨Aw, cw, Av, cv, rfl, q1, q2, hb⟩
            refine ⟨_, rfl, ?_⟩
            have M3 := M2.below hb
            have X3 := blk_below X2 hb
            have r1 := Kd.R_lower q1 M2.bel.size
            have r2 := Kd.R_lower q2 M2.bel.size
            have hB3 := blk_below hB2 hb
            clear hb q1 q2
            refine hK.out _ _ ⟨(blk_cell M3.box 0).trans rfl, (blk_cell M3.box 1).trans rfl, (blk_cell X3 0).trans rfl, (blk_cell X3 1).trans rfl, (blk_cell X3 2).trans rfl, (blk_cell X3 3).trans rfl⟩ (fun hHeld => ?_)
            clear hK K hHeld
            refine norm_ (a' := ?_) ?_ ?_
            rotate_left
            · show Act.put _ (some 116) _ = _; simp only [Act.put, List.setIfInBounds_toArray, List.set_cons_zero, List.set_cons_succ, i64_w, i32_w]; rfl
            refine pure_ (i := 4) (N := some 112) (v := ?_) (a' := ?_) #[true, true, true, true, true, false, false, true, false, false] rfl rfl (by kernel_rfl) (fun _ _ _ h => h) (Or.inl ⟨by rfl, ?_⟩) ?_ ?_
            rotate_left; · intro w'; go_simp; with_reducible rfl
            rotate_left; · simp only [Act.put, List.setIfInBounds_toArray, List.set_cons_zero, List.set_cons_succ, i64_w, i32_w]; rfl
            refine pure_ (i := 5) (N := some 117) (v := ?_) (a' := ?_) #[true, true, true, true, true, true, false, true, false, false] rfl rfl (by kernel_rfl) (fun _ _ _ h => h) (Or.inl ⟨by rfl, ?_⟩) ?_ ?_
            rotate_left; · intro w'; go_simp; with_reducible rfl
            rotate_left; · simp only [Act.put, List.setIfInBounds_toArray, List.set_cons_zero, List.set_cons_succ, i64_w, i32_w]; rfl
            refine pure_ (i := 6) (N := some 118) (v := ?_) (a' := ?_) #[true, true, true, true, true, true, true, true, false, false] rfl rfl (by kernel_rfl) (fun _ _ _ h => h) (Or.inl ⟨by rfl, ?_⟩) ?_ ?_
            rotate_left; · intro w'; go_simp; with_reducible rfl
            rotate_left; · simp only [Act.put, List.setIfInBounds_toArray, List.set_cons_zero, List.set_cons_succ, i64_w, i32_w]; rfl
            exact norm_ (by first | (simp only [putAll, Act.put, List.setIfInBounds_toArray, List.set_cons_zero, List.set_cons_succ]; done) | (simp only [putAll, Act.put, List.setIfInBounds_toArray, List.set_cons_zero, List.set_cons_succ]; rfl)) (J9 (B, (Ac, cc), (Aw, cw), (Av, cv)) _ ⟨M3.bel, X3, hB3, hB0, nB, nB2, r1, r2, M3.box⟩)
          refine goesF_ Try.func28 (by kernel_rfl) rfl #[.agg #[.slice B1 X.length d1, .slice none 0 0]] (by rfl) rfl rfl rfl (by simp only [List.map_toArray, List.map_cons, List.map_nil]; rfl) ?_
          refine (repair_at B1 d1 X.length X w.heap.size q T _ M0.r1 (by have := HXL.out; omega) HXB.out (by rw [HRD.out, HGL.out]) HXQ.out HTL.out).mono ?_
          rintro e W3 ⟨Ac, cc, rfl, hr0, hb⟩
          refine ⟨_, rfl, ?_⟩
          have M1 := M0.below hb
          have X1 := blk_below X0 hb
          have hr := Kd.R_lower hr0 M0.bel.size
          clear hb hr0
          refine hK.out _ _ ⟨(blk_cell M1.box 0).trans rfl, (blk_cell M1.box 1).trans rfl, (blk_cell X1 0).trans rfl, (blk_cell X1 1).trans rfl, (blk_cell X1 2).trans rfl, (blk_cell X1 3).trans rfl⟩ (fun hHeld => ?_)
          clear hK K hHeld
          refine norm_ (a' := ?_) ?_ ?_
          rotate_left
          · show Act.put _ (some 114) _ = _; simp only [Act.put, List.setIfInBounds_toArray, List.set_cons_zero, List.set_cons_succ, i64_w, i32_w]; rfl
          refine two_ (i := 3) (j := 7) (Ni := some 116) (Nj := some 18) #[true, true, true, true, false, false, false, false, false, false] #[true, true, true, false, false, false, false, true, false, false] rfl rfl rfl rfl (by kernel_rfl) (by decide) (by decide) (fun K hK => ?_) (fun K hK => ?_)
          rotate_left
          · refine (alloc_step (cs := #[.slice none 0 0, .slice none 0 0]) (t := 49) (by rfl) (by first | (go_simp; done) | (go_simp; rfl)) ?_)
            intro B eB W2 hB hb
            have M2 := M1.below hb
            have X2 := blk_below X1 hb
            have hr2 := Kd.R_below hr hb
            have nB : B ≠ rk := by have := blk_lt X1; omega
            have nB2 : B ≠ bx := by have := blk_lt M1.box; omega
            have hB0 : w.heap.size ≤ B := by have := M1.bel.size; omega
            clear eB hb
            refine hK.out _ _ ⟨(blk_cell M2.box 0).trans rfl, (blk_cell M2.box 1).trans rfl, (blk_cell X2 0).trans rfl, (blk_cell X2 1).trans rfl, (blk_cell X2 2).trans rfl, (blk_cell X2 3).trans rfl⟩ (fun hHeld => ?_)
            clear hK K hHeld
            refine norm_ (a' := ?_) ?_ ?_
            rotate_left
            · show Act.put _ (some 18) _ = _; simp only [Act.put, List.setIfInBounds_toArray, List.set_cons_zero, List.set_cons_succ, i64_w, i32_w]; rfl
            refine one_ (i := 3) (N := some 116) #[true, true, true, true, false, false, false, true, false, false] rfl rfl (by kernel_rfl) (by decide) (fun K hK => ?_)
            refine goesF_ Try.func25 (by kernel_rfl) rfl #[.agg #[.slice Ac T.length cc, .slice none 0 0], .agg #[.int .i64 3, .int .i64 0, .int .i64 2, .int .i64 99]] (by rfl) rfl rfl rfl (by simp only [List.map_toArray, List.map_cons, List.map_nil]; rfl) ?_
            refine (write_at Ac cc T.length T none 0 0 [] 3 0 2 99 w.heap.size T2 _ hr2 (Kd.R_nil _ _ _ _ _) (by rw [HTL.out]; simp; omega) HTB.out HOK9.out (by rw [HRG.out, HTL.out, HGL.out]) (by rw [HE2.out, HT2.out])).mono ?_
            rintro e W4 ⟨Aw, cw, Av, cv, rfl, q1, q2, hb⟩
            refine ⟨_, rfl, ?_⟩
            have M3 := M2.below hb
            have X3 := blk_below X2 hb
            have r1 := Kd.R_lower q1 M2.bel.size
            have r2 := Kd.R_lower q2 M2.bel.size
            have hB3 := blk_below hB hb
            clear hb q1 q2
            refine hK.out _ _ ⟨(blk_cell M3.box 0).trans rfl, (blk_cell M3.box 1).trans rfl, (blk_cell X3 0).trans rfl, (blk_cell X3 1).trans rfl, (blk_cell X3 2).trans rfl, (blk_cell X3 3).trans rfl⟩ (fun hHeld => ?_)
            clear hK K hHeld
            refine norm_ (a' := ?_) ?_ ?_
            rotate_left
            · show Act.put _ (some 116) _ = _; simp only [Act.put, List.setIfInBounds_toArray, List.set_cons_zero, List.set_cons_succ, i64_w, i32_w]; rfl
            refine pure_ (i := 4) (N := some 112) (v := ?_) (a' := ?_) #[true, true, true, true, true, false, false, true, false, false] rfl rfl (by kernel_rfl) (fun _ _ _ h => h) (Or.inl ⟨by rfl, ?_⟩) ?_ ?_
            rotate_left; · intro w'; go_simp; with_reducible rfl
            rotate_left; · simp only [Act.put, List.setIfInBounds_toArray, List.set_cons_zero, List.set_cons_succ, i64_w, i32_w]; rfl
            refine pure_ (i := 5) (N := some 117) (v := ?_) (a' := ?_) #[true, true, true, true, true, true, false, true, false, false] rfl rfl (by kernel_rfl) (fun _ _ _ h => h) (Or.inl ⟨by rfl, ?_⟩) ?_ ?_
            rotate_left; · intro w'; go_simp; with_reducible rfl
            rotate_left; · simp only [Act.put, List.setIfInBounds_toArray, List.set_cons_zero, List.set_cons_succ, i64_w, i32_w]; rfl
            refine pure_ (i := 6) (N := some 118) (v := ?_) (a' := ?_) #[true, true, true, true, true, true, true, true, false, false] rfl rfl (by kernel_rfl) (fun _ _ _ h => h) (Or.inl ⟨by rfl, ?_⟩) ?_ ?_
            rotate_left; · intro w'; go_simp; with_reducible rfl
            rotate_left; · simp only [Act.put, List.setIfInBounds_toArray, List.set_cons_zero, List.set_cons_succ, i64_w, i32_w]; rfl
            exact norm_ (by first | (simp only [putAll, Act.put, List.setIfInBounds_toArray, List.set_cons_zero, List.set_cons_succ]; done) | (simp only [putAll, Act.put, List.setIfInBounds_toArray, List.set_cons_zero, List.set_cons_succ]; rfl)) (J9 (B, (Ac, cc), (Aw, cw), (Av, cv)) _ ⟨M3.bel, X3, hB3, hB0, nB, nB2, r1, r2, M3.box⟩)
          refine goesF_ Try.func25 (by kernel_rfl) rfl #[.agg #[.slice Ac T.length cc, .slice none 0 0], .agg #[.int .i64 3, .int .i64 0, .int .i64 2, .int .i64 99]] (by rfl) rfl rfl rfl (by simp only [List.map_toArray, List.map_cons, List.map_nil]; rfl) ?_
          refine (write_at Ac cc T.length T none 0 0 [] 3 0 2 99 w.heap.size T2 _ hr (Kd.R_nil _ _ _ _ _) (by rw [HTL.out]; simp; omega) HTB.out HOK9.out (by rw [HRG.out, HTL.out, HGL.out]) (by rw [HE2.out, HT2.out])).mono ?_
          rintro e W4 ⟨Aw, cw, Av, cv, rfl, q1, q2, hb⟩
          refine ⟨_, rfl, ?_⟩
          have M2 := M1.below hb
          have X2 := blk_below X1 hb
          have r1 := Kd.R_lower q1 M1.bel.size
          have r2 := Kd.R_lower q2 M1.bel.size
          clear hb q1 q2
          refine hK.out _ _ ⟨(blk_cell M2.box 0).trans rfl, (blk_cell M2.box 1).trans rfl, (blk_cell X2 0).trans rfl, (blk_cell X2 1).trans rfl, (blk_cell X2 2).trans rfl, (blk_cell X2 3).trans rfl⟩ (fun hHeld => ?_)
          clear hK K hHeld
          refine norm_ (a' := ?_) ?_ ?_
          rotate_left
          · show Act.put _ (some 116) _ = _; simp only [Act.put, List.setIfInBounds_toArray, List.set_cons_zero, List.set_cons_succ, i64_w, i32_w]; rfl
          refine pure_ (i := 4) (N := some 112) (v := ?_) (a' := ?_) #[true, true, true, true, true, false, false, false, false, false] rfl rfl (by kernel_rfl) (fun _ _ _ h => h) (Or.inl ⟨by rfl, ?_⟩) ?_ ?_
          rotate_left; · intro w'; go_simp; with_reducible rfl
          rotate_left; · simp only [Act.put, List.setIfInBounds_toArray, List.set_cons_zero, List.set_cons_succ, i64_w, i32_w]; rfl
          refine pure_ (i := 5) (N := some 117) (v := ?_) (a' := ?_) #[true, true, true, true, true, true, false, false, false, false] rfl rfl (by kernel_rfl) (fun _ _ _ h => h) (Or.inl ⟨by rfl, ?_⟩) ?_ ?_
          rotate_left; · intro w'; go_simp; with_reducible rfl
          rotate_left; · simp only [Act.put, List.setIfInBounds_toArray, List.set_cons_zero, List.set_cons_succ, i64_w, i32_w]; rfl
          refine pure_ (i := 6) (N := some 118) (v := ?_) (a' := ?_) #[true, true, true, true, true, true, true, false, false, false] rfl rfl (by kernel_rfl) (fun _ _ _ h => h) (Or.inl ⟨by rfl, ?_⟩) ?_ ?_
          rotate_left; · intro w'; go_simp; with_reducible rfl
          rotate_left; · simp only [Act.put, List.setIfInBounds_toArray, List.set_cons_zero, List.set_cons_succ, i64_w, i32_w]; rfl
          refine one_ (i := 7) (N := some 18) #[true, true, true, true, true, true, true, true, false, false] rfl rfl (by kernel_rfl) (by decide) (fun K hK => ?_)
          refine (alloc_step (cs := #[.slice none 0 0, .slice none 0 0]) (t := 49) (by rfl) (by first | (go_simp; done) | (go_simp; rfl)) ?_)
          intro B eB W2 hB hb
          have M3 := M2.below hb
          have X3 := blk_below X2 hb
          have r12 := Kd.R_below r1 hb
          have r22 := Kd.R_below r2 hb
          have nB : B ≠ rk := by have := blk_lt X2; omega
          have nB2 : B ≠ bx := by have := blk_lt M2.box; omega
          have hB0 : w.heap.size ≤ B := by have := M2.bel.size; omega
          clear eB hb
          refine hK.out _ _ ⟨(blk_cell M3.box 0).trans rfl, (blk_cell M3.box 1).trans rfl, (blk_cell X3 0).trans rfl, (blk_cell X3 1).trans rfl, (blk_cell X3 2).trans rfl, (blk_cell X3 3).trans rfl⟩ (fun hHeld => ?_)
          clear hK K hHeld
          refine norm_ (a' := ?_) ?_ ?_
          rotate_left
          · show Act.put _ (some 18) _ = _; simp only [Act.put, List.setIfInBounds_toArray, List.set_cons_zero, List.set_cons_succ, i64_w, i32_w]; rfl
          exact norm_ (by first | (simp only [putAll, Act.put, List.setIfInBounds_toArray, List.set_cons_zero, List.set_cons_succ]; done) | (simp only [putAll, Act.put, List.setIfInBounds_toArray, List.set_cons_zero, List.set_cons_succ]; rfl)) (J9 (B, (Ac, cc), (Aw, cw), (Av, cv)) _ ⟨M3.bel, X3, hB, hB0, nB, nB2, r12, r22, M3.box⟩)
end Go.Proofs.Ytgniegpeeaphlaa.HandA
