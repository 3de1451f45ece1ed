import Derived.Test.YtejmjeanhlkenaaCM
import Derived.Test.YtejmjeanhlkenaaCN
import Derived.Test.YtejmjeanhlkenaaCP24
import Derived.Test.YtejmjeanhlkenaaCQ
/- Above, walked: the belts that throw onto a belt. -/
namespace Go.Proofs.Ytejmjeanhlkenaa.HandA
open Go.RowKit Go.Proofs.Ytejmjeanhlkenaa.PB Go.Proofs.YtejmjeanhlkenaaW.PrintWords Go.Proofs.YtejmjeanhlkenaaW.PrintLast Go.Proofs.YtejmjeanhlkenaaW.PrintMore
set_option linter.unusedVariables false
set_option linter.unusedSimpArgs false
set_option maxHeartbeats 4000000 in
set_option maxRecDepth 100000 in
theorem above1_calls (l : List S31) (A : Option Addr) (c : Nat) (L I : Nat) (i k : Int) (w : World) (hl : Kd.C k31 w A l.length l) (hs : Snd l) (k0 : 0 ≤ k) (k1 : k < l.length) (r : Bool) (hr : throwsF l k i = r)
    (hL : w.cell? ⟨L, 0, none⟩ = some (.slice A l.length c)) (hI : w.cell? ⟨I, 0, none⟩ = some (.int .i64 i)) :
    Calls Try.prog 38 #[.int .i64 k, .pointer (some ⟨L, 0, none⟩), .pointer (some ⟨I, 0, none⟩)] w fun e w' => e = .returned (.bool r) ∧ w = w' := by
  have HL := Aside0.mk hl
  have HS := Aside0.mk hs
  have HR := Aside0.mk hr
  clear hl hs hr
  go_enter Try.func38, Try.ntmps38
  go_wp2_with (go_at_call 39; (with_reducible refine (throws_calls l A c k i _ HL.out HS.out k0 k1 r HR.out).mono ?_); rintro e w' ⟨rfl, rfl⟩)
  go_ret
  exact ⟨rfl, rfl⟩
set_option maxHeartbeats 4000000 in
set_option maxRecDepth 100000 in
theorem where_calls (l : List S31) (A : Option Addr) (c : Nat) (L I : Nat) (i : Int) (w : World) (hl : Kd.C k31 w A l.length l) (hs : Snd l)
    (hL : w.cell? ⟨L, 0, none⟩ = some (.slice A l.length c)) (hI : w.cell? ⟨I, 0, none⟩ = some (.int .i64 i)) :
    Calls Try.prog 37 #[.int .i64 l.length, .func (.func 38) #[] #[.pointer (some ⟨L, 0, none⟩), .pointer (some ⟨I, 0, none⟩)]] w fun e w' => ∃ v, e = .returned v ∧ Kd.R (Kd.int .i64) 3 w' w.heap.size (fun _ => True) v (abN l i l.length) ∧ Below w.heap.size w w' := by
  have hlen := hs.len
  have HL := Aside0.mk hl
  have HS := Aside0.mk hs
  have HLc := Aside0.mk hL
  have HIc := Aside0.mk hI
  clear hl hs hL hI
  go_enter Try.func37, Try.ntmps37
  go_wp2_with fail
  go_loopg [5, 8] l.length (fun m v5 v8 w' => ∃ n : Nat, v8 = .int .i64 n ∧ n + m = l.length ∧ Aside0 (Kd.R (Kd.int .i64) 3 w' w.heap.size (fun _ => True) v5 (abN l i n)) ∧ Aside0 (Below w.heap.size w w'))
  case atStart => exact ⟨0, rfl, by omega, ⟨Kd.R_nil _ _ _ _ _⟩, ⟨Below.refl _ _⟩⟩
  case round =>
    obtain ⟨n, rfl, hm, hR, hB⟩ := hrel
    rename_i v5
    by_cases hn : n < l.length
    · obtain ⟨m, rfl⟩ : ∃ q, gk = q + 1 := ⟨gk - 1, by omega⟩
      have hcl : (n : Int) < l.length := by omega
      have kL := pw_cell_below hB.out HLc.out
      have kI := pw_cell_below hB.out HIc.out
      obtain ⟨ag, nn, cc, rfl⟩ := R_sl hR.out
      have hal := abN_len l i n
      have HS2 := Aside0.mk (abN_succ l i n)
      by_cases ht : throwsF l n i = true
      · have HT := Aside0.mk ht
        clear ht
        go_wp2_with (first | ((with_reducible refine gate_dst (N := 13) rfl ?_); refine goesV_ (some 13) rfl rfl Try.func38 (by kernel_rfl) rfl #[.int .i64 (n : Int)] rfl rfl (by simp only [List.map_toArray, List.map_cons, List.map_nil]; rfl) ?_; refine (above1_calls l A c L I i n _ (Kd.C_below HL.out hB.out) HS.out (by omega) hcl true HT.out kL kI).mono ?_; rintro e w' ⟨rfl, rfl⟩; refine ⟨_, rfl, ?_⟩) | ((with_reducible refine gate_builtin (b := .append) (xs := #[.tmp 14, .tmp 16]) rfl ?_); at_builtin; refine Kd.R_append (Kd.int .i64) (w0 := w) w.heap.size rfl (.tmp 14) (.tmp 16) 22 3 (.int .i64 0) 8 rfl Try.underlying22 info3 rfl (by decide) (by omega) (.slice ag nn cc) (abN l i n) (n : Int) [.int .i64 (n : Int)] (fun _ => True) (fun _ => False) rfl rfl ?aP (fun _ hk => hk.elim) ?aF ?aO ?aB ?aS ?aL ?_; (case aP => exact rfl); (case aB => exact hB.out); (case aF => exact (fun _ _ => trivial)); (case aO => exact hR.out); (case aS => exact hB.out.size); (case aL => omega); intro v6 w6 ho6 hb6 hg6 hat6; clear hg6 hat6; have HO6 := Aside0.mk ho6; have HB6 := Aside0.mk hb6; clear ho6 hb6; obtain ⟨ag2, nn2, cc2, rfl⟩ := R_sl HO6.out))
        go_roundg m
        case measure => omega
        case rel => exact ⟨n + 1, by go_num, by omega, ⟨by rw [HS2.out, if_pos HT.out]; exact HO6.out⟩, HB6⟩
      · have ht := Bool.eq_false_iff.2 ht
        have HT := Aside0.mk ht
        clear ht
        go_wp2_with (((with_reducible refine gate_dst (N := 13) rfl ?_); refine goesV_ (some 13) rfl rfl Try.func38 (by kernel_rfl) rfl #[.int .i64 (n : Int)] rfl rfl (by simp only [List.map_toArray, List.map_cons, List.map_nil]; rfl) ?_; refine (above1_calls l A c L I i n _ (Kd.C_below HL.out hB.out) HS.out (by omega) hcl false HT.out kL kI).mono ?_; rintro e w' ⟨rfl, rfl⟩; refine ⟨_, rfl, ?_⟩))
        go_roundg m
        case measure => omega
        case rel => exact ⟨n + 1, by go_num, by omega, ⟨by rw [HS2.out, if_neg (by rw [HT.out]; simp), List.append_nil]; exact hR.out⟩, hB⟩
    · obtain rfl : n = l.length := by omega
      obtain ⟨ag, nn, cc, rfl⟩ := R_sl hR.out
      go_wp2_with fail
      go_ret
      exact ⟨_, rfl, hR.out, hB.out⟩
/-- A list of numbers that was made, or none. -/
theorem above_calls (l : List S31) (A : Option Addr) (c : Nat) (i : Int) (w : World) (hl : Kd.C k31 w A l.length l) (hc : l.length ≤ c) (hfit : Fit l.length) :
    Calls Try.prog 16 #[.slice A l.length c, .int .i64 i] w fun e w' => ∃ v, e = .returned v ∧ Kd.R (Kd.int .i64) 3 w' w.heap.size (fun _ => True) v (aboveF l i) ∧ Below w.heap.size w w' := by
  have HL := Aside0.mk hl
  have HC := Aside0.mk hc
  have HF := Aside0.mk hfit
  have hl63 : (l.length : Int) ≤ 140737488351232 := by unfold Fit at hfit; omega
  clear hl hc hfit
  by_cases hs : Snd l
  · have HS := Aside0.mk hs
    by_cases hi : 0 ≤ i ∧ i < l.length
    · have hA : aboveF l i = abN l i l.length := by unfold aboveF; rw [if_pos ⟨hs, hi⟩]
      rw [hA]
      have HI : Aside0 (lists_In.f i 0 ((l.length : Int) - 1) = some true) := ⟨by rw [In_eq, decide_eq_true (by omega)]⟩
      clear hA hs hi
      go_enter Try.func16, Try.ntmps16
      go_wp2_with (first | (go_at_call 29; (with_reducible refine (sound_calls l A c _ (Kd.C_below HL.out (by repeat (first | exact Below.refl _ _ | apply below_alloc))) HC.out HF.out true (by simp [HS.out])).mono ?_); rintro e w1 ⟨rfl, hb1⟩; have kL : w1.cell? ⟨w.heap.size, 0, none⟩ = some (.slice A l.length c) := (blk_cell (blk_below (blk_alloc (blk_new w _) _) hb1) 0).trans rfl; have kI : w1.cell? ⟨w.heap.size + 1, 0, none⟩ = some (.int .i64 i) := (blk_cell (blk_below (blk2 w _ _) hb1) 0).trans rfl; have HB1 := Aside0.mk (below_step (w := w) (by repeat (first | exact Below.refl _ _ | apply below_alloc)) hb1); clear hb1) | (go_at_call 33; (with_reducible refine (lists_In.calls i 0 ((l.length : Int) - 1) true _ HI.out).mono ?_); rintro e w' ⟨rfl, ⟨nd, rfl⟩⟩; have kL2 : (w1.drewN nd).cell? ⟨w.heap.size, 0, none⟩ = some (.slice A l.length c) := kL; have kI2 : (w1.drewN nd).cell? ⟨w.heap.size + 1, 0, none⟩ = some (.int .i64 i) := kI) | (go_at_call 37; (with_reducible refine (where_calls l A c w.heap.size (w.heap.size + 1) i _ (Kd.C_below HL.out (pw_below_drewN HB1.out _)) HS.out kL2 kI2).mono ?_); rintro e w2 ⟨v, rfl, hr, hb2⟩; have HR := Aside0.mk hr; have HB2 := Aside0.mk (below_step (pw_below_drewN HB1.out nd) hb2); clear hr hb2))
      obtain ⟨ag, nn, cc, rfl⟩ := R_sl HR.out
      go_ret
      exact ⟨_, rfl, Kd.R_lower HR.out HB1.out.size, HB2.out⟩
    · have hA : aboveF l i = [] := by unfold aboveF; rw [if_neg (fun h => hi h.2)]
      rw [hA]
      have HI : Aside0 (lists_In.f i 0 ((l.length : Int) - 1) = some false) := ⟨by rw [In_eq, decide_eq_false (by omega)]⟩
      clear hA hs hi
      go_enter Try.func16, Try.ntmps16
      go_wp2_with (first | (go_at_call 29; (with_reducible refine (sound_calls l A c _ (Kd.C_below HL.out (by repeat (first | exact Below.refl _ _ | apply below_alloc))) HC.out HF.out true (by simp [HS.out])).mono ?_); rintro e w1 ⟨rfl, hb1⟩; have kL : w1.cell? ⟨w.heap.size, 0, none⟩ = some (.slice A l.length c) := (blk_cell (blk_below (blk_alloc (blk_new w _) _) hb1) 0).trans rfl; have kI : w1.cell? ⟨w.heap.size + 1, 0, none⟩ = some (.int .i64 i) := (blk_cell (blk_below (blk2 w _ _) hb1) 0).trans rfl; have HB1 := Aside0.mk (below_step (w := w) (by repeat (first | exact Below.refl _ _ | apply below_alloc)) hb1); clear hb1) | (go_at_call 33; (with_reducible refine (lists_In.calls i 0 ((l.length : Int) - 1) false _ HI.out).mono ?_); rintro e w' ⟨rfl, ⟨nd, rfl⟩⟩; have kL2 : (w1.drewN nd).cell? ⟨w.heap.size, 0, none⟩ = some (.slice A l.length c) := kL; have kI2 : (w1.drewN nd).cell? ⟨w.heap.size + 1, 0, none⟩ = some (.int .i64 i) := kI))
      go_ret
      exact ⟨_, rfl, Kd.R_nil _ _ _ _ _, pw_below_drewN HB1.out _⟩
  · have hA : aboveF l i = [] := by unfold aboveF; rw [if_neg (fun h => hs h.1)]
    rw [hA]
    have HS := Aside0.mk hs
    clear hA hs
    go_enter Try.func16, Try.ntmps16
    go_wp2_with ((go_at_call 29; (with_reducible refine (sound_calls l A c _ (Kd.C_below HL.out (by repeat (first | exact Below.refl _ _ | apply below_alloc))) HC.out HF.out false (by simp [HS.out])).mono ?_); rintro e w1 ⟨rfl, hb1⟩; have kL : w1.cell? ⟨w.heap.size, 0, none⟩ = some (.slice A l.length c) := (blk_cell (blk_below (blk_alloc (blk_new w _) _) hb1) 0).trans rfl; have kI : w1.cell? ⟨w.heap.size + 1, 0, none⟩ = some (.int .i64 i) := (blk_cell (blk_below (blk2 w _ _) hb1) 0).trans rfl; have HB1 := Aside0.mk (below_step (w := w) (by repeat (first | exact Below.refl _ _ | apply below_alloc)) hb1); clear hb1))
    go_ret
    exact ⟨_, rfl, Kd.R_nil _ _ _ _ _, HB1.out⟩
end Go.Proofs.Ytejmjeanhlkenaa.HandA

/- All functions return what the reference returns. -/
namespace Go.Proofs.Ytejmjeanhlkenaa.HandA
open Go.RowKit Go.Proofs.Ytejmjeanhlkenaa.PB Go.Proofs.YtejmjeanhlkenaaW.PrintWords Go.Proofs.YtejmjeanhlkenaaW.PrintLast Go.Proofs.YtejmjeanhlkenaaW.PrintMore
set_option linter.unusedVariables false
set_option linter.unusedSimpArgs false
theorem sameInts_ev (xs : List Int) (hn : Fit xs.length) : Ev (fun k => ref23_SameInts.f k xs xs) true := by
  have key : ∀ (d n : Nat), n + d = xs.length → Ev (fun k => ref23_SameInts.l0 k xs xs (n : Int)) true := by
    intro d
    unfold Fit at hn
    induction d with
    | zero =>
      intro n h
      refine Ev.step (f := fun _ => some true) (fun k => ?_) (Ev.now _)
      simp only [ref23_SameInts.l0]
      rw [if_neg (by omega)]
    | succ d ih =>
      intro n h
      refine Ev.step (f := fun k => ref23_SameInts.l0 k xs xs ((n + 1 : Nat) : Int)) (fun k => ?_) (ih (n + 1) (by omega))
      simp only [ref23_SameInts.l0]
      have hw : wrap64 ((n : Int) + 1) = ((n + 1 : Nat) : Int) := by rw [w64 (by omega) (by omega)]; omega
      simp [show (n : Int) < xs.length by omega, hw]
  unfold ref23_SameInts.f
  simp only [if_true]
  exact key xs.length 0 (by omega)
theorem sameBools_ev (xs : List Bool) (hn : Fit xs.length) : Ev (fun k => ref39_sameBools.f k xs xs) true := by
  have key : ∀ (d n : Nat), n + d = xs.length → Ev (fun k => ref39_sameBools.l0 k xs xs (n : Int)) true := by
    intro d
    unfold Fit at hn
    induction d with
    | zero =>
      intro n h
      refine Ev.step (f := fun _ => some true) (fun k => ?_) (Ev.now _)
      simp only [ref39_sameBools.l0]
      rw [if_neg (by omega)]
    | succ d ih =>
      intro n h
      refine Ev.step (f := fun k => ref39_sameBools.l0 k xs xs ((n + 1 : Nat) : Int)) (fun k => ?_) (ih (n + 1) (by omega))
      simp only [ref39_sameBools.l0]
      have hw : wrap64 ((n : Int) + 1) = ((n + 1 : Nat) : Int) := by rw [w64 (by omega) (by omega)]; omega
      simp [show (n : Int) < xs.length by omega, hw]
  unfold ref39_sameBools.f
  simp only [if_true]
  exact key xs.length 0 (by omega)
theorem same_calls (y : Ln) (a b : La) (w : World) (ha : LC w a y) (hb : LC w b y) (hz : Lz y) :
    Calls Try.prog 40 #[.agg #[.int .i64 y.tm, .slice a.A1 y.st.length a.c1, .slice a.A2 y.si.length a.c2, .slice a.A3 y.pu.length a.c3, .slice a.A4 y.he.length a.c4], .agg #[.int .i64 y.tm, .slice b.A1 y.st.length b.c1, .slice b.A2 y.si.length b.c2, .slice b.A3 y.pu.length b.c3, .slice b.A4 y.he.length b.c4]] w fun e w' => e = .returned (.bool true) ∧ Below w.heap.size w w' := by
  have hE : Ev (fun k => ref39_Same.f k y.tm y.st y.si y.pu y.he y.tm y.st y.si y.pu y.he) true := by
    unfold ref39_Same.f
    simp only [if_true]
    refine Ev.bind (sameInts_ev y.st (by have := hz.z1; unfold Fit; omega)) ?_
    simp only [if_true]
    refine Ev.bind (sameInts_ev y.si (by have := hz.z2; unfold Fit; omega)) ?_
    simp only [if_true]
    refine Ev.bind (sameBools_ev y.pu (by have := hz.z3; unfold Fit; omega)) ?_
    simp only [if_true]
    refine Ev.bind (sameBools_ev y.he (by have := hz.z4; unfold Fit; omega)) ?_
    exact Ev.now _
  obtain ⟨k, hk⟩ := hE.rounds
  exact ref39_Same.calls k y.tm a.A1 a.c1 y.st a.A2 a.c2 y.si a.A3 a.c3 y.pu a.A4 a.c4 y.he y.tm b.A1 b.c1 y.st b.A2 b.c2 y.si b.A3 b.c3 y.pu b.A4 b.c4 y.he true w ha.r1 ha.l1 ha.r2 ha.l2 ha.r3 ha.l3 ha.r4 ha.l4 hb.r1 hb.l1 hb.r2 hb.l2 hb.r3 hb.l3 hb.r4 hb.l4 hk
theorem sameInts_calls (xs : List Int) (A B : Option Addr) (c d : Nat) (w : World) (ha : Kd.C (Kd.int .i64) w A xs.length xs) (hc : xs.length ≤ c) (hb : Kd.C (Kd.int .i64) w B xs.length xs) (hd : xs.length ≤ d) (hn : Fit xs.length) :
    Calls Try.prog 42 #[.slice A xs.length c, .slice B xs.length d] w fun e w' => e = .returned (.bool true) ∧ ∃ n, w' = w.drewN n := by
  obtain ⟨k, hk⟩ := (sameInts_ev xs hn).rounds
  refine (ref23_SameInts.calls k A c xs B d xs true w ha hc hb hd hk).mono ?_
  rintro e w' ⟨rfl, ⟨h⟩⟩
  exact ⟨rfl, h⟩
/-- The lengths stay. -/
theorem step_lz {l : List S31} {x : Ln} {what i t : Int} (hz : Lz x) : Lz (stepF l x what i t).1 := by
  obtain ⟨z1, z2, z3, z4⟩ := hz
  have s : Lz (stopF l i x) := ⟨by simpa [stopF, stopN, stopSt] using z1, by simpa [stopF, stopN, stopSi] using z2, z3, z4⟩
  unfold stepF
  split
  · unfold startF
    repeat' split
    all_goals first | exact ⟨z1, z2, z3, z4⟩ | exact ⟨by simpa using z1, by simpa using z2, z3, z4⟩
  split
  · unfold waitG
    repeat' split
    all_goals first | exact ⟨z1, z2, z3, z4⟩ | exact ⟨by simpa [waitN, waitSt] using z1, by simpa [waitN, waitSi] using z2, z3, z4⟩
  split
  · unfold stopG
    split
    · exact ⟨z1, z2, z3, z4⟩
    · exact s
  split
  · unfold pullG
    split
    · exact ⟨z1, z2, z3, z4⟩
    · exact ⟨s.z1, s.z2, by simpa [pullF] using z3, s.z4⟩
  split
  · unfold restG
    repeat' split
    all_goals first | exact ⟨z1, z2, z3, z4⟩ | exact ⟨z1, z2, by simpa [restF] using z3, z4⟩
  · unfold holdG
    split
    · exact ⟨z1, z2, z3, z4⟩
    · unfold holdF
      split
      · exact ⟨s.z1, s.z2, s.z3, by simpa using z4⟩
      · exact ⟨z1, z2, z3, by simpa using z4⟩
end Go.Proofs.Ytejmjeanhlkenaa.HandA
