/- Restart at a disk with one record, walked; the law's own case. -/
import Derived.Test.YtgniegpeeaphlaaHAz
namespace Go.Proofs.Ytgniegpeeaphlaa.HandA
open Go.RowKit Go.Proofs.Ytgniegpeeaphlaa.PR Go.Proofs.YtgniegpeeaphlaaW.PrintWords Go.Proofs.YtgniegpeeaphlaaW.PrintLast Go.Proofs.YtgniegpeeaphlaaW.PrintMore
set_option linter.unusedVariables false
set_option linter.unusedSimpArgs false
/-- A disk in a variable, and facts. -/
structure Rs (w W : World) (s1 s2 : Value) : Prop where
  bel : Below w.heap.size w W
  box : W.heap[w.heap.size]? = some (.cells #[s1, s2] 49 (0, 0))
  res : W.heap[w.heap.size + 1]? = some (.cells #[.slice none 0 0, .int .i64 0, .slice none 0 0] 35 (0, 0))
theorem Rs.below {w W W' : World} {s1 s2 : Value} (h : Rs w W s1 s2) (hb : Below W.heap.size W W') : Rs w W' s1 s2 := ⟨below_step h.bel hb, blk_below h.box hb, blk_below h.res hb⟩
theorem Rs.drew {w W : World} {s1 s2 : Value} (h : Rs w W s1 s2) : Rs w W.drew s1 s2 := h.below (below_drew1 (Below.refl _ _))
theorem Rs.first (w : World) (s1 s2 : Value) : Rs w ((w.alloc (Obj.cells #[s1, s2] 49)).alloc (Obj.cells #[.slice none 0 0, .int .i64 0, .slice none 0 0] 35)) s1 s2 :=
  ⟨below_alloc (below_alloc (Below.refl _ _) _) _, blk_alloc (blk_new w _) _, (by have := blk_new (w.alloc (Obj.cells #[s1, s2] 49)) (Obj.cells #[.slice none 0 0, .int .i64 0, .slice none 0 0] 35); rw [World.size_alloc] at this; exact this)⟩
set_option maxHeartbeats 8000000 in
set_option maxRecDepth 100000 in
theorem restart_one (A1 : Option Addr) (c1 : Nat) (l1 : List Int) (A2 : Option Addr) (c2 n2 : Nat) (s v t : Int) (w : World) (hr1 : Kd.C kb w A1 l1.length l1) (hc1 : l1.length ≤ c1) (hz : l1.length ≤ 1000000000) (hB : Byt l1) (hR : readF l1 = [⟨1, s, v, t⟩]) (hv : rvB 1 s v t = true) :
    Calls Try.prog 29 #[.agg #[.slice A1 l1.length c1, .slice A2 n2 c2]] w fun e w' => ∃ v0, e = .returned (.tuple #[.agg #[v0, .int .i64 0, .slice none 0 0], .int .i64 (l1.length - 32)]) ∧ Kd.R ki 3 w' w.heap.size (fun _ => True) v0 [s] ∧ Below w.heap.size w w' := by
  have hu49 := Try.underlying49
  have hu35 := Try.underlying35
  have HR1 := Aside0.mk hr1
  have HB := Aside0.mk hB
  have HRD := Aside0.mk hR
  have HV := Aside0.mk hv
  clear hr1 hB hR hv
  have D0 := Aside0.mk (Rs.first w (.slice A1 l1.length c1) (.slice A2 n2 c2))
  go_enter Try.func29, Try.ntmps29
  go_upto_region 1 with fail
  generalize (w.alloc (Obj.cells #[.slice A1 l1.length c1, .slice A2 n2 c2] 49)).alloc (Obj.cells #[.slice none 0 0, .int .i64 0, .slice none 0 0] 35) = W0 at D0 ⊢
  obtain ⟨x0, _, x1, _⟩ := box2 D0.out.box
  go_upto_region 2 with (go_at_call 14; (with_reducible refine (read_calls A1 c1 l1 _ (Kd.C_below HR1.out D0.out.bel) hc1 HB.out hz).mono ?_); rw [HRD.out]; rintro e w2 ⟨v7, rfl, hr, hb⟩; obtain ⟨A7, c7, rfl, l7, r7⟩ := Kd.R_reads hr; have M2 := Aside0.mk (D0.out.below hb); have RD7 := Aside0.mk r7; clear hr hb l7 r7)
  have hw : IntKind.i64.wrap ((l1.length : Int) - 32) = l1.length - 32 := IntWalk.i64_in _ (by omega)
  clear x0 x1

  have M0 := M2.out.drew
  refine start_ (n := 9) (S := (fun w' => w'.cell? ⟨w.heap.size, 0, none⟩ = some (.slice A1 l1.length c1) ∧ w'.cell? ⟨w.heap.size, 1, none⟩ = some (.slice A2 n2 c2))) (ds := []) #[false, false, false, false, false, false, false, false, false] (by kernel_rfl) rfl rfl ⟨(blk_cell M0.box 0).trans rfl, (blk_cell M0.box 1).trans rfl⟩ (fun hHeld => ?_)
  refine pure_ (i := 0) (N := some 12) (v := ?_) (a' := ?_) #[true, false, false, false, false, false, false, false, false] rfl rfl (by kernel_rfl) (fun _ _ _ h => h) (Or.inl ⟨by rfl, ?_⟩) ?_ ?_
  rotate_left; · intro w'; go_simp; with_reducible rfl
  rotate_left; · simp only [Act.put, List.setIfInBounds_toArray, List.set_cons_zero, List.set_cons_succ, i64_w, i32_w]; rfl
  refine pure_ (i := 2) (N := some 14) (v := ?_) (a' := ?_) #[true, false, true, false, false, false, false, false, false] rfl rfl (by kernel_rfl) (fun _ _ _ h => h) (Or.inl ⟨by rfl, ?_⟩) ?_ ?_
  rotate_left; · intro w'; go_simp; with_reducible rfl
  rotate_left; · simp only [Act.put, List.setIfInBounds_toArray, List.set_cons_zero, List.set_cons_succ, i64_w, i32_w]; rfl
  refine take_ (i := 3) (N := some 15) (v := ?_) (a' := ?_) #[true, false, true, true, false, false, false, false, false] rfl rfl (by kernel_rfl) (fun _ _ _ h => h) (Or.inl ⟨by rfl, ?_⟩) hHeld ?_ ?_
  rotate_left; · rintro w' ⟨s0, s1⟩; go_simp; with_reducible rfl
  rotate_left; · simp only [Act.put, List.setIfInBounds_toArray, List.set_cons_zero, List.set_cons_succ, i64_w, i32_w]; rfl
  refine pure_ (i := 4) (N := some 16) (v := ?_) (a' := ?_) #[true, false, true, true, true, false, false, false, false] rfl rfl (by kernel_rfl) (fun _ _ _ h => h) (Or.inl ⟨by rfl, ?_⟩) ?_ ?_
  rotate_left; · intro w'; go_simp; with_reducible rfl
  rotate_left; · simp only [Act.put, List.setIfInBounds_toArray, List.set_cons_zero, List.set_cons_succ, i64_w, i32_w]; rfl
  refine pure_ (i := 5) (N := some 17) (v := ?_) (a' := ?_) #[true, false, true, true, true, true, false, false, false] rfl rfl (by kernel_rfl) (fun _ _ _ h => h) (Or.inl ⟨by rfl, ?_⟩) ?_ ?_
  rotate_left; · intro w'; go_simp; with_reducible rfl
  rotate_left; · simp only [Act.put, List.setIfInBounds_toArray, List.set_cons_zero, List.set_cons_succ, i64_w, i32_w]; rfl
  refine pure_ (i := 6) (N := some 18) (v := ?_) (a' := ?_) #[true, false, true, true, true, true, true, false, false] rfl rfl (by kernel_rfl) (fun _ _ _ h => h) (Or.inl ⟨by rfl, ?_⟩) ?_ ?_
  rotate_left; · intro w'; go_simp; with_reducible rfl
  rotate_left; · simp only [Act.put, List.setIfInBounds_toArray, List.set_cons_zero, List.set_cons_succ, i64_w, i32_w]; rfl
  clear hHeld
  refine one_ (i := 1) (N := some 13) #[true, true, true, true, true, true, true, false, false] rfl rfl (by kernel_rfl) (by decide) (fun K hK => ?_)
  refine goes_ Try.func12 (by kernel_rfl) rfl #[.slice A7 1 c7] (by rfl) rfl rfl (by simp only [List.map_toArray, List.map_cons, List.map_nil]; rfl) ?_
  refine (replay_one A7 c7 s v t _ (Kd.C_below RD7.out (below_drew1 (Below.refl _ _))) HV.out).mono ?_
  rintro e W7 ⟨v0, rfl, hr, hb⟩
  refine ⟨_, rfl, ?_⟩
  obtain ⟨A3, c3, rfl⟩ := Kd.R_slice hr
  have M7 := M0.below hb
  have HR3 := Aside0.mk (show Kd.R ki 3 W7 w.heap.size (fun _ => True) (.slice A3 1 c3) [s] from Kd.R_lower hr M0.bel.size)
  clear hr hb
  refine hK.out _ _ ⟨(blk_cell M7.box 0).trans rfl, (blk_cell M7.box 1).trans rfl⟩ (fun hHeld => ?_)
  clear hK K hHeld
  refine norm_ (a' := ?_) ?_ ?_
  rotate_left
  · show Act.put _ (some 13) _ = _; simp only [Act.put, List.setIfInBounds_toArray, List.set_cons_zero, List.set_cons_succ, i64_w, i32_w]; rfl
  refine one_ (i := 7) (N := none) #[true, true, true, true, true, true, true, true, false] rfl rfl (by kernel_rfl) (by decide) (fun K hK => ?_)
  obtain ⟨p0, r0, p1, r1, p2, r2⟩ := box3 M7.res
  refine skip_ (w1 := ?_) (by rfl) rfl ?_ ?_
  rotate_left
  · go_simp; rfl
  have hne : w.heap.size ≠ w.heap.size + 1 := by omega
  have hbx := blk_far (p := ⟨w.heap.size + 1, 2, none⟩) (blk_far (p := ⟨w.heap.size + 1, 1, none⟩) (blk_far (p := ⟨w.heap.size + 1, 0, none⟩) M7.box hne (.slice A3 1 c3)) hne (.int .i64 0)) hne (.slice none 0 0)
  refine hK.out _ _ ⟨(blk_cell hbx 0).trans rfl, (blk_cell hbx 1).trans rfl⟩ (fun hHeld => ?_)
  clear hK K hHeld
  refine pure_ (i := 8) (N := some 3) (v := ?_) (a' := ?_) #[true, true, true, true, true, true, true, true, true] rfl rfl (by kernel_rfl) (fun _ _ _ h => h) (Or.inl ⟨by rfl, ?_⟩) ?_ ?_
  rotate_left; · intro w'; go_simp; with_reducible rfl
  rotate_left; · simp only [Act.put, List.setIfInBounds_toArray, List.set_cons_zero, List.set_cons_succ, i64_w, i32_w]; rfl
  refine done_ (by kernel_rfl) ?_
  go_wp2_with fail
  have hset := set3 M7.res (.slice A3 1 c3) (.int .i64 0) (.slice none 0 0)
  refine bodyPost_ret (results_ct rfl _ _ (w.heap.size + 1) 35 #[.slice A3 1 c3, .int .i64 0, .slice none 0 0] (0, 0) _ rfl hset hu35 rfl (by kernel_rfl)) rfl ?_
  exact ⟨_, rfl, R_setT (R_setT (R_setT HR3.out M7.res (by decide)) (blk_set M7.res 0 _) (by decide)) (blk_set (blk_set M7.res 0 _) 1 _) (by decide), below_set (below_set (below_set M7.bel (by omega)) (by omega)) (by omega)⟩
end Go.Proofs.Ytgniegpeeaphlaa.HandA
