/- Sync and Crash, walked. -/
import Derived.Test.YtgniegpeeaphlaaHCc
import Derived.Test.YtgniegpeeaphlaaHPn
namespace Go.Proofs.Ytgniegpeeaphlaa.HandA
open Go.RowKit Go.Proofs.Ytgniegpeeaphlaa.PR Go.Proofs.YtgniegpeeaphlaaW.PrintWords Go.Proofs.YtgniegpeeaphlaaW.PrintLast Go.Proofs.YtgniegpeeaphlaaW.PrintMore
set_option linter.unusedVariables false
set_option linter.unusedSimpArgs false
theorem R_setT {α : Type} {d : Kd α} {e base g j t : Nat} {ok : Nat → Prop} {v u : Value} {xs : List α} {W : World} {cs : Array Value} (h : d.R e W base ok v xs) (hb : W.heap[g]? = some (.cells cs t (0, 0))) (ht : ∀ q, q ∈ e :: d.E → q ≠ t) : d.R e (W.setCell ⟨g, j, none⟩ u) base ok v xs :=
  Kd.R_mono (Kd.R_far (p := ⟨g, j, none⟩) (Kd.R_types h hb ht) (fun k hk => hk.2) u) (fun k hk => hk.1)
theorem box2 {V : World} {b t : Nat} {v0 v1 : Value} (h : V.heap[b]? = some (.cells #[v0, v1] t (0, 0))) : V.cell? ⟨b, 0, none⟩ = some v0 ∧ V.frozen? ⟨b, 0, none⟩ = false ∧ V.cell? ⟨b, 1, none⟩ = some v1 ∧ V.frozen? ⟨b, 1, none⟩ = false :=
  ⟨(blk_cell h 0).trans rfl, blk_frozen h 0, (blk_cell h 1).trans rfl, blk_frozen h 1⟩
theorem set2 {W : World} {B t : Nat} {a0 a1 : Value} (h : W.heap[B]? = some (.cells #[a0, a1] t (0, 0))) (b0 b1 : Value) : ((W.setCell ⟨B, 0, none⟩ b0).setCell ⟨B, 1, none⟩ b1).heap[B]? = some (.cells #[b0, b1] t (0, 0)) := blk_set (blk_set h 0 b0) 1 b1
/-- A disk in a variable, and the result's variable. -/
structure Dk (w W : World) (b0 r0 : Nat) (s1 s2 : Value) : Prop where
  bel : Below w.heap.size w W
  hb : w.heap.size ≤ b0
  hr : w.heap.size ≤ r0
  ne : b0 ≠ r0
  box : W.heap[b0]? = some (.cells #[s1, s2] 49 (0, 0))
  res : W.heap[r0]? = some (.cells #[.slice none 0 0, .slice none 0 0] 49 (0, 0))
theorem Dk.below {w W W' : World} {b0 r0 : Nat} {s1 s2 : Value} (h : Dk w W b0 r0 s1 s2) (hb : Below W.heap.size W W') : Dk w W' b0 r0 s1 s2 := ⟨below_step h.bel hb, h.hb, h.hr, h.ne, blk_below h.box hb, blk_below h.res hb⟩
theorem Dk.drew {w W : World} {b0 r0 : Nat} {s1 s2 : Value} (h : Dk w W b0 r0 s1 s2) : Dk w W.drew b0 r0 s1 s2 := h.below (below_drew1 (Below.refl _ _))
theorem Dk.first (w : World) (s1 s2 : Value) : Dk w ((w.alloc (Obj.cells #[s1, s2] 49)).alloc (Obj.cells #[.slice none 0 0, .slice none 0 0] 49)) w.heap.size (w.heap.size + 1) s1 s2 :=
  ⟨below_alloc (below_alloc (Below.refl _ _) _) _, Nat.le_refl _, by simp, by simp, blk_alloc (blk_new w _) _, (by have := blk_new (w.alloc (Obj.cells #[s1, s2] 49)) (Obj.cells #[.slice none 0 0, .slice none 0 0] 49); rw [World.size_alloc] at this; exact this)⟩
/-- The result's variable is set: what it was told lies as before. -/
theorem Dk.set {w W : World} {b0 r0 : Nat} {s1 s2 u1 u2 : Value} (h : Dk w W b0 r0 s1 s2) : Below w.heap.size w ((W.setCell ⟨r0, 0, none⟩ u1).setCell ⟨r0, 1, none⟩ u2) ∧ ((W.setCell ⟨r0, 0, none⟩ u1).setCell ⟨r0, 1, none⟩ u2).heap[r0]? = some (.cells #[u1, u2] 49 (0, 0)) ∧
    ∀ (v : Value) (xs : List Int) (ok : Nat → Prop), Kd.R kb 5 W w.heap.size ok v xs → Kd.R kb 5 ((W.setCell ⟨r0, 0, none⟩ u1).setCell ⟨r0, 1, none⟩ u2) w.heap.size ok v xs :=
  ⟨below_set (below_set h.bel h.hr) h.hr, set2 h.res _ _, fun v xs ok hr => R_setT (R_setT hr h.res (by decide)) (blk_set h.res 0 u1) (by decide)⟩
section
variable {P : Program} {ops : Array Oper} {o : Oper} {a : Act} {Q : Exit → Act → World → Prop} {Kc : Act → World → Prop}
theorem lit_step {W : World} (hw : Region.wanted o (yielded ops a.tmps) = true) {cs : Array Value} {t : TypeId} {n : Nat}
    (hrun : (execOp a.eval o).run P W = .ok (.value (.slice (some ⟨W.heap.size, 0, none⟩) n n)) (W.alloc (.cells cs t (0, 0))))
    (h : ∀ g, g = W.heap.size → ∀ w1, w1.heap[g]? = some (.cells cs t (0, 0)) → Below W.heap.size W w1 → Kc (a.put o.dst (.slice (some ⟨g, 0, none⟩) n n)) w1) : if Region.wanted o (yielded ops a.tmps) = true then Oper.wp P o a W Kc Q else Kc (a.put o.dst undef) W :=
  event_step hw hrun (h _ rfl _ (blk_new W _) (below_alloc (Below.refl _ _) _))
end
theorem concat_at (gb : Nat) (A1 : Option Addr) (c1 : Nat) (l1 : List Int) (A2 : Option Addr) (c2 : Nat) (l2 : List Int) (n2 : Nat) (L : List Int) (w : World) (hb : w.heap[gb]? = some (.cells #[.slice A1 l1.length c1, .slice A2 n2 c2] 38 (0, 0)))
    (hr1 : Kd.C kb w A1 l1.length l1) (hc1 : l1.length ≤ c1) (hr2 : Kd.C kb w A2 l2.length l2) (hc2 : l2.length ≤ c2) (hz : l1.length + l2.length ≤ 140737488355327) (hn : l2.length = n2) (e : l1 ++ l2 = L) :
    Calls Try.prog 53 #[.slice (some ⟨gb, 0, none⟩) 2 2] w fun e w' => ∃ v, e = .returned v ∧ Kd.R kb 5 w' w.heap.size (fun _ => True) v L ∧ Below w.heap.size w w' := by
  subst hn e
  exact concat_calls gb A1 c1 l1 A2 c2 l2 w hb hr1 hc1 hr2 hc2 hz
def controlroom_Sync.f (l0_0 l0_1 : List Int) : Option (List Int × List Int) := if l0_0.length + l0_1.length ≤ 140737488355327 then some (l0_0 ++ l0_1, []) else none
set_option maxHeartbeats 4000000 in
set_option maxRecDepth 100000 in
theorem sync_calls (A1 : Option Addr) (c1 : Nat) (l1 : List Int) (A2 : Option Addr) (c2 : Nat) (l2 : List Int) (w : World) (hr1 : Kd.C kb w A1 l1.length l1) (hc1 : l1.length ≤ c1) (hr2 : Kd.C kb w A2 l2.length l2) (hc2 : l2.length ≤ c2) (hz : l1.length + l2.length ≤ 140737488355327) :
    Calls Try.prog 26 #[.agg #[.slice A1 l1.length c1, .slice A2 l2.length c2]] w fun e w' => ∃ v, e = .returned (.agg #[v, .slice none 0 0]) ∧ Kd.R kb 5 w' w.heap.size (fun _ => True) v (l1 ++ l2) ∧ Below w.heap.size w w' := by
  have hu49 := Try.underlying49
  have HR1 := Aside0.mk hr1
  have HR2 := Aside0.mk hr2
  clear hr1 hr2
  obtain ⟨L, hL⟩ : ∃ L, l1 ++ l2 = L := ⟨_, rfl⟩
  rw [hL]
  have HL := Aside0.mk hL
  clear hL
  have D0 := Aside0.mk (Dk.first w (.slice A1 l1.length c1) (.slice A2 l2.length c2))
  go_enter Try.func26, Try.ntmps26
  go_upto_region 1 with fail
  generalize (w.alloc (Obj.cells #[.slice A1 l1.length c1, .slice A2 l2.length c2] 49)).alloc (Obj.cells #[.slice none 0 0, .slice none 0 0] 49) = W0 at D0 ⊢
  obtain ⟨x0, _, x1, _⟩ := box2 D0.out.box
  go_wp2_with ((go_at_call 53; (with_reducible refine (concat_at _ A1 c1 l1 A2 c2 l2 _ L _ (blk_new _ _) (Kd.C_alloc (Kd.C_below HR1.out D0.out.bel) _) hc1 (Kd.C_alloc (Kd.C_below HR2.out D0.out.bel) _) hc2 hz rfl HL.out).mono ?_); rintro e w3 ⟨v, rfl, hr, hb⟩; obtain ⟨Ao, co, rfl⟩ := Kd.R_slice hr; have D1 := Aside0.mk (D0.out.below (below_step (below_alloc (Below.refl _ _) _) hb)); have HO := Aside0.mk (show Kd.R kb 5 w3 w.heap.size (fun _ => True) (.slice Ao L.length co) L from Kd.R_lower hr (by have := D0.out.bel.size; simp only [World.size_alloc]; omega)); clear hr hb; obtain ⟨o0, u0, o1, u1⟩ := box2 D1.out.res))
  obtain ⟨b1, b2, b3⟩ := D1.out.set (u1 := .slice Ao L.length co) (u2 := .slice none 0 0)
  refine bodyPost_ret (results_cell_row rfl _ _ (w.heap.size + 1) 49 #[.slice Ao L.length co, .slice none 0 0] (0, 0) _ rfl b2 hu49 rfl (by kernel_rfl)) rfl ?_
  exact ⟨_, rfl, b3 _ _ _ HO.out, b1⟩
theorem controlroom_Sync.calls (A0_0 : Option Addr) (c0_0 : Nat) (l0_0 : List Int) (A0_1 : Option Addr) (c0_1 : Nat) (l0_1 : List Int) (r1 : List Int) (r2 : List Int) (w : World) (hr0_0 : Kd.C (Kd.int .u8) w A0_0 l0_0.length l0_0) (hc0_0 : l0_0.length ≤ c0_0) (hr0_1 : Kd.C (Kd.int .u8) w A0_1 l0_1.length l0_1) (hc0_1 : l0_1.length ≤ c0_1) (h : controlroom_Sync.f l0_0 l0_1 = some (r1, r2)) :
    Calls Try.prog 26 #[.agg #[.slice A0_0 l0_0.length c0_0, .slice A0_1 l0_1.length c0_1]] w fun e w' => ∃ v0_ v1_ : Value, e = .returned (.agg #[v0_, v1_]) ∧ Kd.R (Kd.int .u8) 5 w' w.heap.size (fun k_ => some k_ ≠ (v1_ : Value).ownBlock) v0_ r1 ∧ Kd.R (Kd.int .u8) 5 w' w.heap.size (fun k_ => some k_ ≠ (v0_ : Value).ownBlock) v1_ r2 ∧ Below w.heap.size w w' := by
  unfold controlroom_Sync.f at h
  by_cases hz : l0_0.length + l0_1.length ≤ 140737488355327
  · rw [if_pos hz] at h
    cases h
    refine (sync_calls _ _ _ _ _ _ w hr0_0 hc0_0 hr0_1 hc0_1 hz).mono ?_
    rintro e w' ⟨v, rfl, hr, hb⟩
    exact ⟨v, _, rfl, Kd.R_mono hr (fun k _ => by simp [Value.ownBlock]), Kd.R_nil _ _ _ _ _, hb⟩
  · rw [if_neg hz] at h
    cases h
/-- A loss of power: what remains. -/
def keepF (n : Nat) (k : Int) : Nat := (mx 0 (mn k n)).toNat
def crashF (l1 l2 : List Int) (k br : Int) : List Int :=
  let b := l1 ++ l2.take (keepF l2.length k)
  if 0 < keepF l2.length k then b.set (b.length - 1) (bits .xor .u8 (rd b ((b.length - 1 : Nat) : Int)) br) else b
set_option maxHeartbeats 4000000 in
set_option maxRecDepth 100000 in
theorem crash_calls (A1 : Option Addr) (c1 : Nat) (l1 : List Int) (A2 : Option Addr) (c2 : Nat) (l2 : List Int) (k br : Int) (w : World) (hr1 : Kd.C kb w A1 l1.length l1) (hc1 : l1.length ≤ c1) (hr2 : Kd.C kb w A2 l2.length l2) (hc2 : l2.length ≤ c2) (hz : l1.length + l2.length ≤ 140737488355327) :
    Calls Try.prog 27 #[.agg #[.slice A1 l1.length c1, .slice A2 l2.length c2], .int .i64 k, .int .u8 br] w fun e w' => ∃ v, e = .returned (.agg #[v, .slice none 0 0]) ∧ Kd.R kb 5 w' w.heap.size (fun _ => True) v (crashF l1 l2 k br) ∧ Below w.heap.size w w' := by
  have hu49 := Try.underlying49
  have HR1 := Aside0.mk hr1
  have HR2 := Aside0.mk hr2
  clear hr1 hr2
  obtain ⟨RL, hRL⟩ : ∃ x, crashF l1 l2 k br = x := ⟨_, rfl⟩
  rw [hRL]
  have hcr : (if 0 < keepF l2.length k then (l1 ++ l2.take (keepF l2.length k)).set ((l1 ++ l2.take (keepF l2.length k)).length - 1) (bits .xor .u8 (rd (l1 ++ l2.take (keepF l2.length k)) (((l1 ++ l2.take (keepF l2.length k)).length - 1 : Nat) : Int)) br) else l1 ++ l2.take (keepF l2.length k)) = RL := hRL
  have HCR := Aside0.mk hcr
  clear hcr hRL
  have D0 := Aside0.mk (Dk.first w (.slice A1 l1.length c1) (.slice A2 l2.length c2))
  go_enter Try.func27, Try.ntmps27
  go_upto_region 1 with fail
  generalize (w.alloc (Obj.cells #[.slice A1 l1.length c1, .slice A2 l2.length c2] 49)).alloc (Obj.cells #[.slice none 0 0, .slice none 0 0] 49) = W0 at D0 ⊢
  obtain ⟨x0, _, x1, _⟩ := box2 D0.out.box
  go_upto_region 2 with fail
  have hk : (if 0 < if (l2.length : Int) < k then (l2.length : Int) else k then if (l2.length : Int) < k then (l2.length : Int) else k else 0) = ((keepF l2.length k : Nat) : Int) := by
    unfold keepF mx mn
    repeat' split
    all_goals omega
  rw [hk]
  clear hk
  generalize (if (l2.length : Int) < k then (l2.length : Int) else k) = kk
  have hkl : keepF l2.length k ≤ l2.length := by
    unfold keepF mx mn
    repeat' split
    all_goals omega
  have hcr := HCR.out
  clear HCR
  generalize keepF l2.length k = K at hkl hcr ⊢
  have hkc : (K : Int) ≤ c2 := by omega
  have hk0 : (0 : Int) ≤ K := by omega
  have HR3 := Aside0.mk (fun W h => Kd.C_take (Kd.C_below HR2.out (show Below w.heap.size w W from h)) hkl)
  have hlt : (l2.take K).length = K := by rw [List.length_take]; omega
  have HLT := Aside0.mk hlt
  clear hlt
  obtain ⟨L, hL⟩ : ∃ L, l1 ++ l2.take K = L := ⟨_, rfl⟩
  rw [hL] at hcr
  have HCR := Aside0.mk hcr
  clear hcr
  have hLK : 0 < K → 0 < L.length := by intro q; rw [← hL, List.length_append, HLT.out]; omega
  have hLz : L.length ≤ 140737488355327 := by rw [← hL, List.length_append, HLT.out]; omega
  have HL := Aside0.mk hL
  clear hL
  have M0 := D0.out.drew
  refine start_ (n := 9) (S := (fun w' => w'.cell? ⟨w.heap.size, 0, none⟩ = some (.slice A1 l1.length c1) ∧ w'.cell? ⟨w.heap.size, 1, none⟩ = some (.slice A2 l2.length c2))) (ds := []) #[false, false, false, false, false, false, false, false, false] (by kernel_rfl) rfl rfl ⟨(blk_cell M0.box 0).trans rfl, (blk_cell M0.box 1).trans rfl⟩ (fun hHeld => ?_)
  refine pure_ (i := 0) (N := some 14) (v := ?_) (a' := ?_) #[true, false, false, false, false, false, false, false, false] rfl rfl (by kernel_rfl) (fun _ _ _ h => h) (Or.inl ⟨by rfl, ?_⟩) ?_ ?_
  rotate_left; · intro w'; go_simp; with_reducible rfl
  rotate_left; · simp only [Act.put, List.setIfInBounds_toArray, List.set_cons_zero, List.set_cons_succ, i64_w, i32_w]; rfl
  refine pure_ (i := 2) (N := some 16) (v := ?_) (a' := ?_) #[true, false, true, false, false, false, false, false, false] rfl rfl (by kernel_rfl) (fun _ _ _ h => h) (Or.inl ⟨by rfl, ?_⟩) ?_ ?_
  rotate_left; · intro w'; go_simp; with_reducible rfl
  rotate_left; · simp only [Act.put, List.setIfInBounds_toArray, List.set_cons_zero, List.set_cons_succ, i64_w, i32_w]; rfl
  refine pure_ (i := 4) (N := some 18) (v := ?_) (a' := ?_) #[true, false, true, false, true, false, false, false, false] rfl rfl (by kernel_rfl) (fun _ _ _ h => h) (Or.inl ⟨by rfl, ?_⟩) ?_ ?_
  rotate_left; · intro w'; go_simp; with_reducible rfl
  rotate_left; · simp only [Act.put, List.setIfInBounds_toArray, List.set_cons_zero, List.set_cons_succ, i64_w, i32_w]; rfl
  refine take_ (i := 1) (N := some 15) (v := ?_) (a' := ?_) #[true, true, true, false, true, false, false, false, false] rfl rfl (by kernel_rfl) (fun _ _ _ h => h) (Or.inl ⟨by rfl, ?_⟩) hHeld ?_ ?_
  rotate_left; · rintro w' ⟨s0, s1⟩; go_simp; with_reducible rfl
  rotate_left; · simp only [Act.put, List.setIfInBounds_toArray, List.set_cons_zero, List.set_cons_succ, i64_w, i32_w]; rfl
  refine take_ (i := 3) (N := some 17) (v := ?_) (a' := ?_) #[true, true, true, true, true, false, false, false, false] rfl rfl (by kernel_rfl) (fun _ _ _ h => h) (Or.inl ⟨by rfl, ?_⟩) hHeld ?_ ?_
  rotate_left; · rintro w' ⟨s0, s1⟩; go_simp; with_reducible rfl
  rotate_left; · simp only [Act.put, List.setIfInBounds_toArray, List.set_cons_zero, List.set_cons_succ, i64_w, i32_w]; rfl
  refine pure_ (i := 5) (N := some 19) (v := ?_) (a' := ?_) #[true, true, true, true, true, true, false, false, false] rfl rfl (by kernel_rfl) (fun _ _ _ h => h) (Or.inl ⟨by rfl, ?_⟩) ?_ ?_
  rotate_left; · intro w'; go_simp; with_reducible rfl
  rotate_left; · simp only [Act.put, List.setIfInBounds_toArray, List.set_cons_zero, List.set_cons_succ, i64_w, i32_w]; rfl
  clear hHeld
  refine one_ (i := 6) (N := some 20) #[true, true, true, true, true, true, true, false, false] rfl rfl (by kernel_rfl) (by decide) (fun K9 hK => ?_)
  refine lit_step (by rfl) (n := 2) (cs := #[.slice A1 l1.length c1, .slice A2 K c2]) (t := 38) (by first | (go_simp; done) | (go_simp; rfl)) ?_
  intro B eB W2 hB hb
  have M1 := M0.below hb
  have hBs : w.heap.size ≤ W2.heap.size := M1.bel.size
  clear eB hb
  refine hK.out _ _ ⟨(blk_cell M1.box 0).trans rfl, (blk_cell M1.box 1).trans rfl⟩ (fun hHeld => ?_)
  clear hK  hHeld
  refine norm_ (a' := ?_) ?_ ?_
  rotate_left
  · show Act.put _ (some 20) _ = _; simp only [Act.put, List.setIfInBounds_toArray, List.set_cons_zero, List.set_cons_succ, i64_w, i32_w]; rfl
  refine one_ (i := 7) (N := some 21) #[true, true, true, true, true, true, true, true, false] rfl rfl (by kernel_rfl) (by decide) (fun K9 hK => ?_)
  refine goes_ Try.func53 (by kernel_rfl) rfl #[.slice (some ⟨B, 0, none⟩) 2 2] (by rfl) rfl rfl (by simp only [List.map_toArray, List.map_cons, List.map_nil]; rfl) ?_
  refine (concat_at B A1 c1 l1 A2 c2 (l2.take K) K L _ hB (Kd.C_below HR1.out M1.bel) hc1 (HR3.out _ M1.bel) (by rw [HLT.out]; omega) (by rw [HLT.out]; omega) HLT.out HL.out).mono ?_
  rintro e W3 ⟨v, rfl, hr, hb⟩
  refine ⟨_, rfl, ?_⟩
  have M2 := M1.below hb
  have HO := Aside0.mk (show Kd.R kb 5 W3 w.heap.size (fun _ => True) v L from Kd.R_lower hr hBs)
  clear hr hb hB
  refine hK.out _ _ ⟨(blk_cell M2.box 0).trans rfl, (blk_cell M2.box 1).trans rfl⟩ (fun hHeld => ?_)
  clear hK hHeld
  refine norm_ (a' := ?_) ?_ ?_
  rotate_left
  · show Act.put _ (some 21) _ = _; simp only [Act.put, List.setIfInBounds_toArray, List.set_cons_zero, List.set_cons_succ, i64_w, i32_w]; rfl
  refine pure_ (i := 8) (N := some 7) (v := ?_) (a' := ?_) #[true, true, true, true, true, true, true, true, true] rfl rfl (by kernel_rfl) (fun _ _ _ h => h) (Or.inl ⟨by rfl, ?_⟩) ?_ ?_
  rotate_left; · intro w'; go_simp; with_reducible rfl
  rotate_left; · simp only [Act.put, List.setIfInBounds_toArray, List.set_cons_zero, List.set_cons_succ, i64_w, i32_w]; rfl
  refine done_ (by kernel_rfl) ?_
  by_cases hK0 : 0 < K
  · obtain ⟨g, cap, rfl, hg0, hg1, ⟨cs, hcs⟩⟩ := Kd.R_form HO.out (hLK hK0)
    have hK1 : (0 : Int) < K := by omega
    have hcr := HCR.out
    rw [if_pos hK0] at hcr
    have hL0 := hLK hK0
    obtain ⟨m, hm⟩ : ∃ m, L.length = m + 1 := ⟨L.length - 1, by omega⟩
    have hm1 : L.length - 1 = m := by omega
    rw [hm1] at hcr
    obtain ⟨e1, e2⟩ := Kd.R_cell (0 : Int) HO.out (m : Int) (by omega) (by omega)
    have hput := Aside0.mk (Kd.R_put HO.out (m : Int) (bits .xor .u8 (rd L (m : Int)) br))
    rw [Int.toNat_natCast] at e1 e2
    have e1' : W3.cell? ⟨g, m, none⟩ = some (.int .u8 (rd L (m : Int))) := e1
    have s1 : IntKind.i64.wrap ((L.length : Int) - 1) = (m : Int) := by rw [hm]; rw [IntKind.wrap_i64]; omega
    have hml : (m : Int) < L.length := by omega
    have RLm := Aside0.mk hcr
    have HM := Aside0.mk hm
    clear e1 hcr hLK hL0 hm hm1 HCR hK0
    go_upto_region 5 with fail
    have M3 : Dk w (W3.setCell ⟨g, m, none⟩ (.int .u8 (bits .xor .u8 (rd L (m : Int)) br))) w.heap.size (w.heap.size + 1) (.slice A1 l1.length c1) (.slice A2 l2.length c2) :=
      ⟨below_set M2.bel hg0, M2.hb, M2.hr, M2.ne, blk_far M2.box (p := ⟨g, m, none⟩) (blk_ne M2.box hcs (by decide)) _, blk_far M2.res (p := ⟨g, m, none⟩) (blk_ne M2.res hcs (by decide)) _⟩
    have hput2 : Kd.R kb 5 (W3.setCell ⟨g, m, none⟩ (.int .u8 (bits .xor .u8 (rd L (m : Int)) br))) w.heap.size (fun _ => True) (.slice (some ⟨g, 0, none⟩) L.length cap) RL := by
      have h := hput.out
      rw [Int.toNat_natCast] at h
      rw [← RLm.out]
      exact h.1
    generalize W3.setCell ⟨g, m, none⟩ (.int .u8 (bits .xor .u8 (rd L (m : Int)) br)) = W4 at M3 hput2 ⊢
    have HP := Aside0.mk hput2
    clear hput hput2 M2 e1' e2 hcs
    obtain ⟨o0, u0, o1, u1⟩ := box2 M3.res
    go_wp2_with fail
    obtain ⟨b1, b2, b3⟩ := M3.set (u1 := .slice (some ⟨g, 0, none⟩) L.length cap) (u2 := .slice none 0 0)
    refine bodyPost_ret (results_cell_row rfl _ _ (w.heap.size + 1) 49 #[.slice (some ⟨g, 0, none⟩) L.length cap, .slice none 0 0] (0, 0) _ rfl b2 hu49 rfl (by kernel_rfl)) rfl ?_
    exact ⟨_, rfl, b3 _ _ _ HP.out, b1⟩
  · have hK1 : ¬ (0 : Int) < K := by omega
    obtain ⟨Ao, co, rfl⟩ := Kd.R_slice HO.out
    have hcr := HCR.out
    rw [if_neg hK0] at hcr
    have hRL := Aside0.mk hcr
    clear hcr hK1 hLK HCR
    obtain ⟨o0, u0, o1, u1⟩ := box2 M2.res
    go_wp2_with fail
    obtain ⟨b1, b2, b3⟩ := M2.set (u1 := .slice Ao L.length co) (u2 := .slice none 0 0)
    refine bodyPost_ret (results_cell_row rfl _ _ (w.heap.size + 1) 49 #[.slice Ao L.length co, .slice none 0 0] (0, 0) _ rfl b2 hu49 rfl (by kernel_rfl)) rfl ?_
    exact ⟨_, rfl, (by rw [← hRL.out]; exact b3 _ _ _ HO.out), b1⟩
end Go.Proofs.Ytgniegpeeaphlaa.HandA
