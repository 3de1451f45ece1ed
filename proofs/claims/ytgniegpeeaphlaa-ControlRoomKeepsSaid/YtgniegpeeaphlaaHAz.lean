/- A first zone that is cut: BinarySearchFunc, Insert, set and Replay at an empty list, walked. -/
import Derived.Test.YtgniegpeeaphlaaHWr
namespace Go.Proofs.Ytgniegpeeaphlaa.HandA
open Go.RowKit Go.Proofs.Ytgniegpeeaphlaa.PR Go.Proofs.YtgniegpeeaphlaaW.PrintWords Go.Proofs.YtgniegpeeaphlaaW.PrintLast Go.Proofs.YtgniegpeeaphlaaW.PrintMore
set_option linter.unusedVariables false
set_option linter.unusedSimpArgs false
abbrev ki : Kd Int := Kd.int .i64
set_option maxHeartbeats 4000000 in
set_option maxRecDepth 100000 in
theorem search_nil (s : Int) (g : Nat) (w : World) :
    Calls Try.prog 55 #[.slice none 0 0, .int .i64 s, .func (.func g) #[] #[]] w fun e w' => e = .returned (.tuple #[.int .i64 0, .bool false]) ∧ Below w.heap.size w w' := by
  go_enter Try.func55, Try.ntmps55
  go_wp2_with fail
  go_loopg [9, 10, 11] 1 (fun m v9 v10 v11 w' => v9 = .int .i64 0 ∧ v10 = .int .i64 0 ∧ w = w')
  case atStart => exact ⟨rfl, rfl, rfl⟩
  case round =>
    obtain ⟨rfl, rfl, rfl⟩ := hrel
    go_wp2_with fail
    go_ret2
    exact ⟨rfl, Below.refl _ _⟩
set_option maxHeartbeats 4000000 in
set_option maxRecDepth 100000 in
theorem insert_nil (s : Int) (B : Nat) (w : World) (hB : w.heap[B]? = some (.cells #[.int .i64 s] 3 (0, 0))) :
    Calls Try.prog 56 #[.slice none 0 0, .int .i64 0, .slice (some ⟨B, 0, none⟩) 1 1] w fun e w' => ∃ v, e = .returned v ∧ Kd.R ki 3 w' w.heap.size (fun _ => True) v [s] ∧ Below w.heap.size w w' := by
  have HC := Aside0.mk (show Kd.C ki w (some ⟨B, 0, none⟩) 1 [s] from ⟨rfl, by decide, fun _ => ⟨_, rfl, fun j p hj => by
    rcases j with _ | j
    · cases hj
      refine ⟨[.int .i64 s], rfl, rfl, fun i u hu => ?_⟩
      rcases i with _ | i
      · cases hu
        exact (blk_cell hB 0).trans rfl
      · cases hu
    · cases hj⟩⟩)
  clear hB
  go_enter Try.func56, Try.ntmps56
  go_wp2_with ((with_reducible refine gate_builtin (b := .append) (xs := #[.tmp 23, .tmp 24]) rfl ?_); at_builtin; refine Kd.R_append_rows ki (w0 := w) w.heap.size rfl (.tmp 23) (.tmp 24) 22 3 (.int .i64 0) 8 rfl Try.underlying22 info3 rfl (by decide) (by omega) (.slice none 0 0) ([] : List Int) [s] _ _ _ (fun _ => True) (fun _ => False) rfl rfl ?aO ?aR (fun _ _ h => h) (fun _ h => h.elim) ?aF ?aB ?aS ?aL ?_; (case aR => exact HC.out); (case aB => exact Below.refl _ _); (case aF => exact (fun _ _ => trivial)); (case aO => exact Kd.R_nil _ _ _ _ _); (case aS => exact Nat.le_refl _); (case aL => simp); intro v1 w1 ho hb hg hat; have HO := Aside0.mk ho; have HB := Aside0.mk hb; clear ho hb hg hat)
  go_ret
  exact ⟨_, rfl, HO.out, HB.out⟩
set_option maxHeartbeats 4000000 in
set_option maxRecDepth 100000 in
theorem set_nil (s : Int) (w : World) :
    Calls Try.prog 31 #[.slice none 0 0, .int .i64 s, .func (.func 32) #[] #[], .bool true] w fun e w' => ∃ v, e = .returned v ∧ Kd.R ki 3 w' w.heap.size (fun _ => True) v [s] ∧ Below w.heap.size w w' := by
  go_enter Try.func31, Try.ntmps31
  go_wp2_with (first | (go_at_call 55; (with_reducible refine (search_nil s 32 _).mono ?_); rintro e w1 ⟨rfl, hb⟩; have HB := Aside0.mk hb; clear hb) | (go_at_call 56; (with_reducible refine (insert_nil s _ _ (blk_new _ _)).mono ?_); rintro e w2 ⟨v, rfl, hr, hb⟩; have HO := Aside0.mk hr; have HB2 := Aside0.mk (below_step (below_alloc HB.out _) hb); clear hr hb))
  go_ret
  exact ⟨_, rfl, Kd.R_lower HO.out (by have := HB.out.size; simp only [World.size_alloc]; omega), HB2.out⟩
theorem box3 {V : World} {b t : Nat} {v0 v1 v2 : Value} (h : V.heap[b]? = some (.cells #[v0, v1, v2] t (0, 0))) : V.cell? ⟨b, 0, none⟩ = some v0 ∧ V.frozen? ⟨b, 0, none⟩ = false ∧ V.cell? ⟨b, 1, none⟩ = some v1 ∧ V.frozen? ⟨b, 1, none⟩ = false ∧ V.cell? ⟨b, 2, none⟩ = some v2 ∧ V.frozen? ⟨b, 2, none⟩ = false :=
  ⟨(blk_cell h 0).trans rfl, blk_frozen h 0, (blk_cell h 1).trans rfl, blk_frozen h 1, (blk_cell h 2).trans rfl, blk_frozen h 2⟩
theorem set3 {W : World} {B t : Nat} {a0 a1 a2 : Value} (h : W.heap[B]? = some (.cells #[a0, a1, a2] t (0, 0))) (b0 b1 b2 : Value) : (((W.setCell ⟨B, 0, none⟩ b0).setCell ⟨B, 1, none⟩ b1).setCell ⟨B, 2, none⟩ b2).heap[B]? = some (.cells #[b0, b1, b2] t (0, 0)) := blk_set (blk_set (blk_set h 0 b0) 1 b1) 2 b2
/-- Two variables of facts. -/
structure Fx (w W : World) (u0 u1 u2 : Value) : Prop where
  bel : Below w.heap.size w W
  res : W.heap[w.heap.size]? = some (.cells #[.slice none 0 0, .int .i64 0, .slice none 0 0] 35 (0, 0))
  out : W.heap[w.heap.size + 1]? = some (.cells #[u0, u1, u2] 35 (0, 0))
theorem Fx.below {w W W' : World} {u0 u1 u2 : Value} (h : Fx w W u0 u1 u2) (hb : Below W.heap.size W W') : Fx w W' u0 u1 u2 := ⟨below_step h.bel hb, blk_below h.res hb, blk_below h.out hb⟩
theorem Fx.first (w : World) : Fx w ((w.alloc (Obj.cells #[.slice none 0 0, .int .i64 0, .slice none 0 0] 35)).alloc (Obj.cells #[.slice none 0 0, .int .i64 0, .slice none 0 0] 35)) (.slice none 0 0) (.int .i64 0) (.slice none 0 0) :=
  ⟨below_alloc (below_alloc (Below.refl _ _) _) _, blk_alloc (blk_new w _) _, (by have := blk_new (w.alloc (Obj.cells #[.slice none 0 0, .int .i64 0, .slice none 0 0] 35)) (Obj.cells #[.slice none 0 0, .int .i64 0, .slice none 0 0] 35); rw [World.size_alloc] at this; exact this)⟩
set_option maxHeartbeats 8000000 in
set_option maxRecDepth 100000 in
theorem replay_one (A : Option Addr) (c : Nat) (s v t : Int) (w : World) (hl : Kd.C k32 w A 1 [⟨1, s, v, t⟩]) (hv : rvB 1 s v t = true) :
    Calls Try.prog 12 #[.slice A 1 c] w fun e w' => ∃ v0, e = .returned (.agg #[v0, .int .i64 0, .slice none 0 0]) ∧ Kd.R ki 3 w' w.heap.size (fun _ => True) v0 [s] ∧ Below w.heap.size w w' := by
  have hu32 := Try.underlying32
  have hu35 := Try.underlying35
  have HL := Aside0.mk hl
  have HV := Aside0.mk (valid_f 0 1 s v t)
  rw [hv] at HV
  clear hl hv
  have F0 := Aside0.mk (Fx.first w)
  go_enter Try.func12, Try.ntmps12
  go_upto_region 2 with fail
  generalize (w.alloc (Obj.cells #[.slice none 0 0, .int .i64 0, .slice none 0 0] 35)).alloc (Obj.cells #[.slice none 0 0, .int .i64 0, .slice none 0 0] 35) = W0 at F0 ⊢
  go_wp2_with fail
  go_loopg [8] 1 (fun m v8 w' => (m = 1 ∧ v8 = .int .i64 0 ∧ Aside0 (Fx w w' (.slice none 0 0) (.int .i64 0) (.slice none 0 0))) ∨ (m = 0 ∧ v8 = .int .i64 1 ∧ ∃ A3 c3, Aside0 (Fx w w' (.slice A3 1 c3) (.int .i64 0) (.slice none 0 0)) ∧ Aside0 (Kd.R ki 3 w' w.heap.size (fun _ => True) (.slice A3 1 c3) [s])))
  case atStart => exact .inl ⟨rfl, rfl, F0⟩
  case round =>
    rcases hrel with ⟨rfl, rfl, F⟩ | ⟨rfl, rfl, A3, c3, F, HR⟩
    · obtain ⟨ad, e, d0, d1, d2, d3⟩ := at_T32 (Kd.C_below HL.out F.out.bel) 0 (by omega) (by omega)
      cases e
      have za : ad.add (Int.toNat 0 * 4) = ad := by simp [Addr.add]
      rw [za] at d0 d1 d2 d3
      have D0 : wr.cell? ad = some (.int .i64 1) := d0
      have D1 : wr.cell? { block := ad.block, off := ad.off + 1 } = some (.int .i64 s) := d1
      have D2 : wr.cell? { block := ad.block, off := ad.off + 2 } = some (.int .i64 v) := d2
      have D3 : wr.cell? { block := ad.block, off := ad.off + 3 } = some (.int .i64 t) := d3
      clear za d0 d1 d2 d3
      go_upto_region 5 with fail
      have F1 := F.out.below (below_alloc (Below.refl _ _) (Obj.cells #[.int .i64 1, .int .i64 s, .int .i64 v, .int .i64 t] 32))
      have hbr := blk_new wr (Obj.cells #[.int .i64 1, .int .i64 s, .int .i64 v, .int .i64 t] 32)
      generalize wr.alloc (Obj.cells #[.int .i64 1, .int .i64 s, .int .i64 v, .int .i64 t] 32) = W1 at F1 hbr ⊢
      generalize wr.heap.size = rb at hbr ⊢
      obtain ⟨x0, _, x1, _, x2, _, x3, _⟩ := box4 hbr
      have FF := Aside0.mk F1
      have HBR := Aside0.mk hbr
      clear D0 D1 D2 D3 F1 hbr
      go_upto_region 10 with (go_at_call 30; (with_reducible refine (controlroom_Valid.calls 1 _ _ _ _ _ _ HV.out).mono ?_); rintro e w2 ⟨rfl, hb⟩; have F2 := Aside0.mk (FF.out.below hb); have HB2 := Aside0.mk (blk_below HBR.out hb); clear hb; obtain ⟨y0, g0, y1, g1, y2, g2⟩ := box3 F2.out.out; obtain ⟨z0, _, z1, _, z2, _, z3, _⟩ := box4 HB2.out)
      go_wp2_with (go_at_call 31; (with_reducible refine (set_nil s _).mono ?_); rintro e w3 ⟨v0, rfl, hr, hb⟩; obtain ⟨A3, c3, rfl⟩ := Kd.R_slice hr; have F3 := Aside0.mk (F2.out.below hb); have HR3 := Aside0.mk (show Kd.R ki 3 w3 w.heap.size (fun _ => True) (.slice A3 [s].length c3) [s] from Kd.R_lower hr F2.out.bel.size); clear hr hb; obtain ⟨p0, r0, p1, r1, p2, r2⟩ := box3 F3.out.out)
      go_roundg 0
      case measure => omega
      case rel =>
        refine .inr ⟨rfl, by first | rfl | go_num, A3, c3, ⟨below_set F3.out.bel (by omega), blk_far F3.out.res (p := ⟨w.heap.size + 1, 0, none⟩) (by show w.heap.size ≠ w.heap.size + 1; omega) _, ?_⟩, ⟨R_setT HR3.out F3.out.out (by decide)⟩⟩
        simpa using blk_set F3.out.out 0 (.slice A3 1 c3)
    · obtain ⟨p0, r0, p1, r1, p2, r2⟩ := box3 F.out.out
      obtain ⟨q0, t0, q1, t1, q2, t2⟩ := box3 F.out.res
      go_wp2_with fail
      have hset := set3 F.out.res (.slice A3 1 c3) (.int .i64 0) (.slice none 0 0)
      refine bodyPost_ret (results_cell_row rfl _ _ w.heap.size 35 #[.slice A3 1 c3, .int .i64 0, .slice none 0 0] (0, 0) _ rfl hset hu35 rfl (by kernel_rfl)) rfl ?_
      exact ⟨_, rfl, R_setT (R_setT (R_setT HR.out F.out.res (by decide)) (blk_set F.out.res 0 _) (by decide)) (blk_set (blk_set F.out.res 0 _) 1 _) (by decide), below_set (below_set (below_set F.out.bel (Nat.le_refl _)) (Nat.le_refl _)) (Nat.le_refl _)⟩
end Go.Proofs.Ytgniegpeeaphlaa.HandA
