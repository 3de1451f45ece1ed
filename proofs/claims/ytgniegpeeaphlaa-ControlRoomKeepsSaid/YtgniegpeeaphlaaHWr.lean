/- Write, walked. -/
import Derived.Test.YtgniegpeeaphlaaHBy
import Derived.Test.YtgniegpeeaphlaaHDk
namespace Go.Proofs.Ytgniegpeeaphlaa.HandA
open Go.RowKit Go.Proofs.Ytgniegpeeaphlaa.PR Go.Proofs.YtgniegpeeaphlaaW.PrintWords Go.Proofs.YtgniegpeeaphlaaW.PrintLast Go.Proofs.YtgniegpeeaphlaaW.PrintMore
set_option linter.unusedVariables false
set_option linter.unusedSimpArgs false
def Reads (w : World) (v : Value) (xs : List Int) : Prop := ∃ A c, v = .slice A xs.length c ∧ xs.length ≤ c ∧ Kd.C kb w A xs.length xs
theorem reads_R {w : World} {base : Nat} {ok : Nat → Prop} {v : Value} {xs : List Int} (h : Kd.R kb 5 w base ok v xs) : Reads w v xs := by
  obtain ⟨A, c, e, l, r⟩ := Kd.R_reads h
  exact ⟨A, c, e, l, r⟩
/-- What Write makes of a disk. -/
def writeF (l1 l2 : List Int) (k s v t : Int) : List Int × Int :=
  if rvB k s v t = true then
    if 32 * (readF l1).length = l1.length then
      if l1.length + l2.length + 32 > 65536 then (l2, 2) else (l2 ++ bytesF k s v t, 0)
    else (l2, 54)
  else (l2, 6)
theorem Dk.first3 (w : World) (s1 s2 : Value) (o : Obj) : Dk w (((w.alloc (Obj.cells #[s1, s2] 49)).alloc o).alloc (Obj.cells #[.slice none 0 0, .slice none 0 0] 49)) w.heap.size (w.heap.size + 1 + 1) s1 s2 :=
  ⟨below_alloc (below_alloc (below_alloc (Below.refl _ _) _) _) _, Nat.le_refl _, by omega, by omega, blk_alloc (blk_alloc (blk_new w _) _) _, (by have := blk_new ((w.alloc (Obj.cells #[s1, s2] 49)).alloc o) (Obj.cells #[.slice none 0 0, .slice none 0 0] 49); rw [World.size_alloc, World.size_alloc] at this; exact this)⟩
/-- .. and the record's bytes. -/
structure Wr (w W : World) (b0 r0 : Nat) (s1 s2 : Value) (A : Option Addr) (lb : List Int) : Prop where
  dk : Dk w W b0 r0 s1 s2
  rd : Kd.C kb W A lb.length lb
theorem Wr.below {w W W' : World} {b0 r0 : Nat} {s1 s2 : Value} {A : Option Addr} {lb : List Int} (h : Wr w W b0 r0 s1 s2 A lb) (hb : Below W.heap.size W W') : Wr w W' b0 r0 s1 s2 A lb := ⟨h.dk.below hb, Kd.C_below h.rd hb⟩
theorem Wr.drew {w W : World} {b0 r0 : Nat} {s1 s2 : Value} {A : Option Addr} {lb : List Int} (h : Wr w W b0 r0 s1 s2 A lb) : Wr w W.drew b0 r0 s1 s2 A lb := h.below (below_drew1 (Below.refl _ _))
set_option maxHeartbeats 8000000 in
set_option maxRecDepth 100000 in
theorem write_calls (A1 : Option Addr) (c1 : Nat) (l1 : List Int) (A2 : Option Addr) (c2 : Nat) (l2 : List Int) (k s v t : Int) (w : World) (hr1 : Kd.C kb w A1 l1.length l1) (hc1 : l1.length ≤ c1) (hr2 : Kd.C kb w A2 l2.length l2) (hc2 : l2.length ≤ c2) (hz : l1.length + l2.length ≤ 1000000000) (hB : Byt l1) (r2 : List Int) (er : Int) (hf : writeF l1 l2 k s v t = (r2, er)) :
    Calls Try.prog 25 #[.agg #[.slice A1 l1.length c1, .slice A2 l2.length c2], .agg #[.int .i64 k, .int .i64 s, .int .i64 v, .int .i64 t]] w fun e w' => ∃ v1 v2, e = .returned (.tuple #[.agg #[v1, v2], .int .i64 er]) ∧ Reads w' v1 l1 ∧ Reads w' v2 r2 ∧
      (er = 0 → Kd.R kb 5 w' w.heap.size (fun k => some k ≠ v2.ownBlock) v1 l1 ∧ Kd.R kb 5 w' w.heap.size (fun k => some k ≠ v1.ownBlock) v2 r2) ∧ Below w.heap.size w w' := by
  have hu49 := Try.underlying49
  have hu32 := Try.underlying32
  have HR1 := Aside0.mk hr1
  have HR2 := Aside0.mk hr2
  have HF := Aside0.mk hf
  have HB := Aside0.mk hB
  have HBF := Aside0.mk (bytes_f 50 (by omega) k s v t)
  clear hr1 hr2 hf hB
  have D0 := Aside0.mk (Dk.first3 w (.slice A1 l1.length c1) (.slice A2 l2.length c2) (Obj.cells #[.int .i64 k, .int .i64 s, .int .i64 v, .int .i64 t] 32))
  have B0 := Aside0.mk (show (((w.alloc (Obj.cells #[.slice A1 l1.length c1, .slice A2 l2.length c2] 49)).alloc (Obj.cells #[.int .i64 k, .int .i64 s, .int .i64 v, .int .i64 t] 32)).alloc (Obj.cells #[.slice none 0 0, .slice none 0 0] 49)).heap[w.heap.size + 1]? = some (.cells #[.int .i64 k, .int .i64 s, .int .i64 v, .int .i64 t] 32 (0, 0)) from by
    have := blk_alloc (blk_new (w.alloc (Obj.cells #[.slice A1 l1.length c1, .slice A2 l2.length c2] 49)) (Obj.cells #[.int .i64 k, .int .i64 s, .int .i64 v, .int .i64 t] 32)) (Obj.cells #[.slice none 0 0, .slice none 0 0] 49)
    rw [World.size_alloc] at this
    exact this)
  go_enter Try.func25, Try.ntmps25
  go_upto_region 1 with fail
  generalize ((w.alloc (Obj.cells #[.slice A1 l1.length c1, .slice A2 l2.length c2] 49)).alloc (Obj.cells #[.int .i64 k, .int .i64 s, .int .i64 v, .int .i64 t] 32)).alloc (Obj.cells #[.slice none 0 0, .slice none 0 0] 49) = W0 at D0 B0 ⊢
  obtain ⟨a0, -, a1, -, a2, -, a3, -⟩ := box4 B0.out
  clear B0

  by_cases hv : rvB k s v t = true
  · have HV := Aside0.mk hv
    rw [if_pos hv] at HBF
    obtain ⟨LB, hLB⟩ : ∃ x, bytesF k s v t = x := ⟨_, rfl⟩
    have hlen : LB.length = 32 := by rw [← hLB]; exact bytes_len k s v t
    rw [hLB] at HBF
    have HLB := Aside0.mk hLB
    have HLEN := Aside0.mk hlen
    clear hv hLB hlen
    go_upto_region 2 with (go_at_call 13; (with_reducible refine (controlroom_Bytes.calls 50 _ _ _ _ _ _ _ HBF.out).mono ?_); rintro e w1 ⟨v6, rfl, hr, hb⟩; obtain ⟨A6, c6, rfl, l6, r6⟩ := Kd.R_reads hr; have M1 := Aside0.mk (show Wr w w1 w.heap.size (w.heap.size + 1 + 1) (.slice A1 l1.length c1) (.slice A2 l2.length c2) A6 LB from ⟨D0.out.below hb, r6⟩); have LE6 := Aside0.mk l6; clear hr hb l6 r6; obtain ⟨x0, _, x1, _⟩ := box2 M1.out.dk.box; obtain ⟨o0, u0, o1, u1⟩ := box2 M1.out.dk.res)
    clear a0 a1 a2 a3
    obtain ⟨RN, hRN⟩ : ∃ x, (readF l1).length = x := ⟨_, rfl⟩
    have HRN := Aside0.mk hRN
    have hrz : 32 * RN ≤ l1.length := by rw [← hRN]; exact (readL_len 2048 l1).2
    clear hRN
    by_cases hn : 32 * RN = l1.length
    · have hnb : ((32 * (RN : Int)) != (l1.length : Int)) = false := by simp only [bne_eq_false_iff_eq]; omega
      have HN := Aside0.mk hn
      clear hn
      have s1 : IntKind.i64.wrap ((l1.length : Int) + l2.length) = l1.length + l2.length := IntWalk.i64_in _ (by omega)
      have s2 : IntKind.i64.wrap ((l1.length : Int) + l2.length + LB.length) = l1.length + l2.length + 32 := by rw [HLEN.out]; exact IntWalk.i64_in _ (by omega)
      go_upto_region 5 with (first | (go_at_call 14; (with_reducible refine (read_calls A1 c1 l1 _ (Kd.C_below HR1.out M1.out.dk.bel) hc1 HB.out (by omega)).mono ?_); rw [HRN.out]; rintro e w2 ⟨v7, rfl, hr, hb⟩; obtain ⟨A7, c7, rfl, -, -⟩ := Kd.R_reads hr; have M2 := Aside0.mk (M1.out.below hb); clear hr hb; obtain ⟨x0, _, x1, _⟩ := box2 M2.out.dk.box; obtain ⟨o0, u0, o1, u1⟩ := box2 M2.out.dk.res))
      by_cases hm : l1.length + l2.length + 32 > 65536
      · have hmb : decide (65536 < (l1.length : Int) + l2.length + 32) = true := decide_eq_true (by omega)
        have HM := Aside0.mk hm
        clear hm
        go_wp2_with fail
        obtain ⟨b1, b2, b3⟩ := M2.out.dk.set (u1 := .slice A1 l1.length c1) (u2 := .slice A2 l2.length c2)
        refine bodyPost_ret (results_ct rfl _ _ (w.heap.size + 1 + 1) 49 #[.slice A1 l1.length c1, .slice A2 l2.length c2] (0, 0) _ rfl b2 hu49 rfl (by kernel_rfl)) rfl ?_
        have e := HF.out
        unfold writeF at e
        rw [if_pos HV.out, HRN.out, if_pos HN.out, if_pos HM.out] at e
        cases e
        exact ⟨_, _, rfl, ⟨A1, c1, rfl, hc1, Kd.C_below HR1.out b1⟩, ⟨A2, c2, rfl, hc2, Kd.C_below HR2.out b1⟩, fun q => absurd q (by decide), b1⟩
      · have hmb : decide (65536 < (l1.length : Int) + l2.length + 32) = false := decide_eq_false (by omega)
        have HM := Aside0.mk hm
        clear hm
        obtain ⟨L2, hL2⟩ : ∃ x, l2 ++ LB = x := ⟨_, rfl⟩
        have HL2 := Aside0.mk hL2
        clear hL2
        go_upto_region 9 with fail
        have M0 := M2.out.drew
        refine start_ (n := 11) (S := (fun w' => w'.cell? ⟨w.heap.size, 0, none⟩ = some (.slice A1 l1.length c1) ∧ w'.cell? ⟨w.heap.size, 1, none⟩ = some (.slice A2 l2.length c2))) (ds := [9]) #[false, false, false, false, false, false, false, false, false, false, false] (by kernel_rfl) rfl rfl ⟨(blk_cell M0.dk.box 0).trans rfl, (blk_cell M0.dk.box 1).trans rfl⟩ (fun hHeld => ?_)
        refine pure_ (i := 0) (N := some 43) (v := ?_) (a' := ?_) #[true, false, false, false, false, false, false, false, false, false, false] rfl rfl (by kernel_rfl) (fun _ _ _ h => h) (Or.inl ⟨by rfl, ?_⟩) ?_ ?_
        rotate_left; · intro w'; go_simp; with_reducible rfl
        rotate_left; · simp only [Act.put, List.setIfInBounds_toArray, List.set_cons_zero, List.set_cons_succ, i64_w, i32_w]; rfl
        refine pure_ (i := 3) (N := some 46) (v := ?_) (a' := ?_) #[true, false, false, true, false, false, false, false, false, false, false] rfl rfl (by kernel_rfl) (fun _ _ _ h => h) (Or.inl ⟨by rfl, ?_⟩) ?_ ?_
        rotate_left; · intro w'; go_simp; with_reducible rfl
        rotate_left; · simp only [Act.put, List.setIfInBounds_toArray, List.set_cons_zero, List.set_cons_succ, i64_w, i32_w]; rfl
        refine pure_ (i := 5) (N := some 48) (v := ?_) (a' := ?_) #[true, false, false, true, false, true, false, false, false, false, false] rfl rfl (by kernel_rfl) (fun _ _ _ h => h) (Or.inl ⟨by rfl, ?_⟩) ?_ ?_
        rotate_left; · intro w'; go_simp; with_reducible rfl
        rotate_left; · simp only [Act.put, List.setIfInBounds_toArray, List.set_cons_zero, List.set_cons_succ, i64_w, i32_w]; rfl
        refine take_ (i := 1) (N := some 44) (v := ?_) (a' := ?_) #[true, true, false, true, false, true, false, false, false, false, false] rfl rfl (by kernel_rfl) (fun _ _ _ h => h) (Or.inl ⟨by rfl, ?_⟩) hHeld ?_ ?_
        rotate_left; · rintro w' ⟨s0, s1⟩; go_simp; with_reducible rfl
        rotate_left; · simp only [Act.put, List.setIfInBounds_toArray, List.set_cons_zero, List.set_cons_succ, i64_w, i32_w]; rfl
        refine take_ (i := 4) (N := some 47) (v := ?_) (a' := ?_) #[true, true, false, true, true, true, false, false, false, false, false] rfl rfl (by kernel_rfl) (fun _ _ _ h => h) (Or.inl ⟨by rfl, ?_⟩) hHeld ?_ ?_
        rotate_left; · rintro w' ⟨s0, s1⟩; go_simp; with_reducible rfl
        rotate_left; · simp only [Act.put, List.setIfInBounds_toArray, List.set_cons_zero, List.set_cons_succ, i64_w, i32_w]; rfl
        clear hHeld
        refine join_ (σ := Nat × Option Addr × Nat) 4 #[true, true, true, true, true, true, true, false, false, false, false] (fun B => [(45, .slice B.2.1 l1.length B.2.2), (49, .slice (some ⟨B.1, 0, none⟩) 2 2)]) (fun B w' => Wr w w' w.heap.size (w.heap.size + 1 + 1) (.slice A1 l1.length c1) (.slice A2 l2.length c2) A6 LB ∧ w'.heap[B.1]? = some (Obj.cells #[.slice A2 l2.length c2, .slice A6 LB.length c6] 38 (0, 0)) ∧ Kd.R kb 5 w' w.heap.size (fun _ => True) (.slice B.2.1 l1.length B.2.2) l1) ?_ ?_
        · rintro ⟨B, Ac, cc⟩ W6 ⟨M6, hB, hRc⟩
          dsimp only at hB hRc
          simp only [putAll, Act.put, List.setIfInBounds_toArray, List.set_cons_zero, List.set_cons_succ]
          refine one_ (i := 7) (N := some 50) #[true, true, true, true, true, true, true, true, false, false, false] rfl rfl (by kernel_rfl) (by decide) (fun K hK => ?_)
          refine goes_ Try.func53 (by kernel_rfl) rfl #[.slice (some ⟨B, 0, none⟩) 2 2] (by rfl) rfl rfl (by simp only [List.map_toArray, List.map_cons, List.map_nil]; rfl) ?_
          refine (concat_at B A2 c2 l2 A6 c6 LB LB.length L2 _ hB (Kd.C_below HR2.out M6.dk.bel) hc2 M6.rd LE6.out (by rw [HLEN.out]; omega) rfl HL2.out).mono ?_
          rintro e W7 ⟨v, rfl, hr, hb⟩
          refine ⟨_, rfl, ?_⟩
          have M7 := M6.below hb
          have hbase := Kd.R_base hr
          obtain ⟨Av, cv, rfl⟩ := Kd.R_slice hr
          have hR1 := Kd.R_mono (Kd.R_bound hRc) (ok' := fun k => some k ≠ (Value.slice Av L2.length cv).ownBlock) (fun k hk q => by have := hbase k q.symm; omega)
          have HR1f := Aside0.mk (Kd.R_below hR1 hb)
          have hlt1 := Kd.R_lt hRc
          have HR2f := Aside0.mk (Kd.R_lower (Kd.R_mono (Kd.R_bound hr) (ok' := fun k => some k ≠ (Value.slice Ac l1.length cc).ownBlock) (fun k hk q => by have h1 := hlt1 k q.symm; have h2 := hk.2.1; omega)) M6.dk.bel.size)
          clear hr hb hRc hB hR1 hbase hlt1
          refine hK.out _ _ ⟨(blk_cell M7.dk.box 0).trans rfl, (blk_cell M7.dk.box 1).trans rfl⟩ (fun hHeld => ?_)
          clear hK K hHeld
          refine norm_ (a' := ?_) ?_ ?_
          rotate_left
          · show Act.put _ (some 50) _ = _; simp only [Act.put, List.setIfInBounds_toArray, List.set_cons_zero, List.set_cons_succ, i64_w, i32_w]; rfl
          refine pure_ (i := 8) (N := some 51) (v := ?_) (a' := ?_) #[true, true, true, true, true, true, true, true, true, false, false] rfl rfl (by kernel_rfl) (fun _ _ _ h => h) (Or.inl ⟨by rfl, ?_⟩) ?_ ?_
          rotate_left; · intro w'; go_simp; with_reducible rfl
          rotate_left; · simp only [Act.put, List.setIfInBounds_toArray, List.set_cons_zero, List.set_cons_succ, i64_w, i32_w]; rfl
          refine last_ (i := 9) (N := none) #[true, true, true, true, true, true, true, true, true, true, false] rfl rfl (by kernel_rfl) (by decide) (fun K hK => ?_)
          obtain ⟨o0, u0, o1, u1⟩ := box2 M7.dk.res
          refine skip_ (w1 := ?_) (by rfl) rfl ?_ ?_
          rotate_left
          · go_simp; rfl
          refine hK.out _ _ ?_
          clear hK K
          refine pure_ (i := 10) (N := some 5) (v := ?_) (a' := ?_) #[true, true, true, true, true, true, true, true, true, true, true] rfl rfl (by kernel_rfl) (fun _ _ _ h => h) (Or.inl ⟨by rfl, ?_⟩) ?_ ?_
          rotate_left; · intro w'; go_simp; with_reducible rfl
          rotate_left; · simp only [Act.put, List.setIfInBounds_toArray, List.set_cons_zero, List.set_cons_succ, i64_w, i32_w]; rfl
          refine done_ (by kernel_rfl) ?_
          go_wp2_with fail
          obtain ⟨b1, b2, b3⟩ := M7.dk.set (u1 := .slice Ac l1.length cc) (u2 := .slice Av L2.length cv)
          refine bodyPost_ret (results_ct rfl _ _ (w.heap.size + 1 + 1) 49 #[.slice Ac l1.length cc, .slice Av L2.length cv] (0, 0) _ rfl b2 hu49 rfl (by kernel_rfl)) rfl ?_
          have e := HF.out
          unfold writeF at e
          rw [if_pos HV.out, HRN.out, if_pos HN.out, if_neg HM.out, HLB.out, HL2.out] at e
          cases e
          have q1 := b3 _ _ _ HR1f.out
          have q2 := b3 _ _ _ HR2f.out
          exact ⟨_, _, rfl, reads_R q1, reads_R q2, fun _ => ⟨q1, q2⟩, b1⟩
        intro J9
        refine two_ (i := 2) (j := 6) (Ni := some 45) (Nj := some 49) #[true, true, true, true, true, true, false, false, false, false, false] #[true, true, false, true, true, true, true, false, false, false, false] rfl rfl rfl rfl (by kernel_rfl) (by decide) (by decide) (fun K hK => ?_) (fun K hK => ?_)
        · refine goes_ Try.func52 (by kernel_rfl) rfl #[.slice A1 l1.length c1] (by rfl) rfl rfl (by simp only [List.map_toArray, List.map_cons, List.map_nil]; rfl) ?_
          refine (clone_calls A1 c1 l1 _ (Kd.C_below HR1.out M0.dk.bel) hc1 (by omega)).mono ?_
          rintro e W1 ⟨v, rfl, hr, hb⟩
          obtain ⟨Ac, cc, rfl⟩ := Kd.R_slice hr
          refine ⟨_, rfl, ?_⟩
          have M3 := M0.below hb
          have hRc := Kd.R_lower hr M0.dk.bel.size
          clear hr hb
          refine hK.out _ _ ⟨(blk_cell M3.dk.box 0).trans rfl, (blk_cell M3.dk.box 1).trans rfl⟩ (fun hHeld => ?_)
          clear hK K hHeld
          refine norm_ (a' := ?_) ?_ ?_
          rotate_left
          · show Act.put _ (some 45) _ = _; simp only [Act.put, List.setIfInBounds_toArray, List.set_cons_zero, List.set_cons_succ, i64_w, i32_w]; rfl
          refine one_ (i := 6) (N := some 49) #[true, true, true, true, true, true, true, false, false, false, false] rfl rfl (by kernel_rfl) (by decide) (fun K hK => ?_)
          refine lit_step (by rfl) (n := 2) (cs := #[.slice A2 l2.length c2, .slice A6 LB.length c6]) (t := 38) (by first | (go_simp; done) | (go_simp; rfl)) ?_
          intro B eB W2 hB hb
          have M4 := M3.below hb
          have hRc := Kd.R_below hRc hb
          clear eB hb
          refine hK.out _ _ ⟨(blk_cell M4.dk.box 0).trans rfl, (blk_cell M4.dk.box 1).trans rfl⟩ (fun hHeld => ?_)
          clear hK K hHeld
          refine norm_ (a' := ?_) ?_ ?_
          rotate_left
          · show Act.put _ (some 49) _ = _; simp only [Act.put, List.setIfInBounds_toArray, List.set_cons_zero, List.set_cons_succ, i64_w, i32_w]; rfl
          exact norm_ (by first | (simp only [putAll, Act.put, List.setIfInBounds_toArray, List.set_cons_zero, List.set_cons_succ]; done) | (simp only [putAll, Act.put, List.setIfInBounds_toArray, List.set_cons_zero, List.set_cons_succ]; rfl)) (J9 (B, Ac, cc) _ ⟨M4, hB, hRc⟩)
        · refine lit_step (by rfl) (n := 2) (cs := #[.slice A2 l2.length c2, .slice A6 LB.length c6]) (t := 38) (by first | (go_simp; done) | (go_simp; rfl)) ?_
          intro B eB W2 hB hb
          have M3 := M0.below hb
          clear eB hb
          refine hK.out _ _ ⟨(blk_cell M3.dk.box 0).trans rfl, (blk_cell M3.dk.box 1).trans rfl⟩ (fun hHeld => ?_)
          clear hK K hHeld
          refine norm_ (a' := ?_) ?_ ?_
          rotate_left
          · show Act.put _ (some 49) _ = _; simp only [Act.put, List.setIfInBounds_toArray, List.set_cons_zero, List.set_cons_succ, i64_w, i32_w]; rfl
          refine one_ (i := 2) (N := some 45) #[true, true, true, true, true, true, true, false, false, false, false] rfl rfl (by kernel_rfl) (by decide) (fun K hK => ?_)
          refine goes_ Try.func52 (by kernel_rfl) rfl #[.slice A1 l1.length c1] (by rfl) rfl rfl (by simp only [List.map_toArray, List.map_cons, List.map_nil]; rfl) ?_
          refine (clone_calls A1 c1 l1 _ (Kd.C_below HR1.out M3.dk.bel) hc1 (by omega)).mono ?_
          rintro e W1 ⟨v, rfl, hr, hb⟩
          obtain ⟨Ac, cc, rfl⟩ := Kd.R_slice hr
          refine ⟨_, rfl, ?_⟩
          have M4 := M3.below hb
          have hRc := Kd.R_lower hr M3.dk.bel.size
          have hB := blk_below hB hb
          clear hr hb
          refine hK.out _ _ ⟨(blk_cell M4.dk.box 0).trans rfl, (blk_cell M4.dk.box 1).trans rfl⟩ (fun hHeld => ?_)
          clear hK K hHeld
          refine norm_ (a' := ?_) ?_ ?_
          rotate_left
          · show Act.put _ (some 45) _ = _; simp only [Act.put, List.setIfInBounds_toArray, List.set_cons_zero, List.set_cons_succ, i64_w, i32_w]; rfl
          exact norm_ (by first | (simp only [putAll, Act.put, List.setIfInBounds_toArray, List.set_cons_zero, List.set_cons_succ]; done) | (simp only [putAll, Act.put, List.setIfInBounds_toArray, List.set_cons_zero, List.set_cons_succ]; rfl)) (J9 (B, Ac, cc) _ ⟨M4, hB, hRc⟩)
    · have hnb : ((32 * (RN : Int)) != (l1.length : Int)) = true := by simp; omega
      have HN := Aside0.mk hn
      clear hn
      go_upto_region 5 with (first | (go_at_call 14; (with_reducible refine (read_calls A1 c1 l1 _ (Kd.C_below HR1.out M1.out.dk.bel) hc1 HB.out (by omega)).mono ?_); rw [HRN.out]; rintro e w2 ⟨v7, rfl, hr, hb⟩; obtain ⟨A7, c7, rfl, -, -⟩ := Kd.R_reads hr; have M2 := Aside0.mk (M1.out.below hb); clear hr hb; obtain ⟨x0, _, x1, _⟩ := box2 M2.out.dk.box; obtain ⟨o0, u0, o1, u1⟩ := box2 M2.out.dk.res))
      go_wp2_with fail
      obtain ⟨b1, b2, b3⟩ := M2.out.dk.set (u1 := .slice A1 l1.length c1) (u2 := .slice A2 l2.length c2)
      refine bodyPost_ret (results_ct rfl _ _ (w.heap.size + 1 + 1) 49 #[.slice A1 l1.length c1, .slice A2 l2.length c2] (0, 0) _ rfl b2 hu49 rfl (by kernel_rfl)) rfl ?_
      have e := HF.out
      unfold writeF at e
      rw [if_pos HV.out, HRN.out, if_neg HN.out] at e
      cases e
      exact ⟨_, _, rfl, ⟨A1, c1, rfl, hc1, Kd.C_below HR1.out b1⟩, ⟨A2, c2, rfl, hc2, Kd.C_below HR2.out b1⟩, fun q => absurd q (by decide), b1⟩
  · have HV := Aside0.mk hv
    rw [if_neg hv] at HBF
    clear hv
    go_upto_region 2 with (go_at_call 13; (with_reducible refine (controlroom_Bytes.calls 50 _ _ _ _ _ _ _ HBF.out).mono ?_); rintro e w1 ⟨v6, rfl, hr, hb⟩; obtain ⟨A6, c6, rfl, l6, r6⟩ := Kd.R_reads hr; have M1 := Aside0.mk (show Wr w w1 w.heap.size (w.heap.size + 1 + 1) (.slice A1 l1.length c1) (.slice A2 l2.length c2) A6 [] from ⟨D0.out.below hb, r6⟩); have LE6 := Aside0.mk l6; clear hr hb l6 r6; obtain ⟨x0, _, x1, _⟩ := box2 M1.out.dk.box; obtain ⟨o0, u0, o1, u1⟩ := box2 M1.out.dk.res)
    clear a0 a1 a2 a3
    go_wp2_with fail
    obtain ⟨b1, b2, b3⟩ := M1.out.dk.set (u1 := .slice A1 l1.length c1) (u2 := .slice A2 l2.length c2)
    refine bodyPost_ret (results_ct rfl _ _ (w.heap.size + 1 + 1) 49 #[.slice A1 l1.length c1, .slice A2 l2.length c2] (0, 0) _ rfl b2 hu49 rfl (by kernel_rfl)) rfl ?_
    have e := HF.out
    unfold writeF at e
    rw [if_neg HV.out] at e
    cases e
    exact ⟨_, _, rfl, ⟨A1, c1, rfl, hc1, Kd.C_below HR1.out b1⟩, ⟨A2, c2, rfl, hc2, Kd.C_below HR2.out b1⟩, fun q => absurd q (by decide), b1⟩
end Go.Proofs.Ytgniegpeeaphlaa.HandA
