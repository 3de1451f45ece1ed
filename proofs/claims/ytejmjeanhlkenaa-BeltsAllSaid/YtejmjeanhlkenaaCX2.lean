import Derived.Test.YtejmjeanhlkenaaCU
import Derived.Test.YtejmjeanhlkenaaCP6
/- The law over any belts and lines, walked. -/
namespace Go.Proofs.Ytejmjeanhlkenaa.HandA
open Go.RowKit Go.Proofs.Ytejmjeanhlkenaa.PB Go.Proofs.YtejmjeanhlkenaaW.PrintWords Go.Proofs.YtejmjeanhlkenaaW.PrintLast Go.Proofs.YtejmjeanhlkenaaW.PrintMore
set_option linter.unusedVariables false
set_option linter.unusedSimpArgs false

set_option maxHeartbeats 16000000 in
set_option maxRecDepth 100000 in
theorem raw_calls (l : List S31) (A : Option Addr) (c : Nat) (x : Ln) (a : La) (n0 n1 : Int) (w : World) (hl : Kd.C k31 w A l.length l) (hc : l.length ≤ c) (hx : LC w a x) :
    Calls Try.prog 4 #[.slice A l.length c, .agg #[.int .i64 x.tm, .slice a.A1 x.st.length a.c1, .slice a.A2 x.si.length a.c2, .slice a.A3 x.pu.length a.c3, .slice a.A4 x.he.length a.c4], .agg #[.int .i64 n0, .int .i64 n1]] w fun e w' => e = .returned (.bool true) ∧ Below w.heap.size w w' := by
  have HL := Aside0.mk hl
  have HC := Aside0.mk hc
  have HX := Aside0.mk hx
  have hu34 := Try.underlying34
  have hu41 := Try.underlying41
  clear hl hc hx
  obtain ⟨m, hm⟩ : ∃ m, made_Mod.f n0 (l.length : Int) = some m := by unfold made_Mod.f; split; exact ⟨_, rfl⟩; rename_i h; rw [if_neg (by omega)]; split <;> exact ⟨_, rfl⟩
  go_enter Try.func4, Try.ntmps4
  go_upto_region 1 with fail
  have hX := blk_alloc (blk_new w (Obj.cells #[Value.int IntKind.i64 x.tm, Value.slice a.A1 x.st.length a.c1, Value.slice a.A2 x.si.length a.c2, Value.slice a.A3 x.pu.length a.c3, Value.slice a.A4 x.he.length a.c4] 34)) (Obj.cells #[Value.int IntKind.i64 n0, Value.int IntKind.i64 n1] 41)
  have hA := blk_new (w.alloc (Obj.cells #[Value.int IntKind.i64 x.tm, Value.slice a.A1 x.st.length a.c1, Value.slice a.A2 x.si.length a.c2, Value.slice a.A3 x.pu.length a.c3, Value.slice a.A4 x.he.length a.c4] 34)) (Obj.cells #[Value.int IntKind.i64 n0, Value.int IntKind.i64 n1] 41)
  have hB := below_alloc (below_alloc (Below.refl w.heap.size w) (Obj.cells #[Value.int IntKind.i64 x.tm, Value.slice a.A1 x.st.length a.c1, Value.slice a.A2 x.si.length a.c2, Value.slice a.A3 x.pu.length a.c3, Value.slice a.A4 x.he.length a.c4] 34)) (Obj.cells #[Value.int IntKind.i64 n0, Value.int IntKind.i64 n1] 41)
  have hs : (w.alloc (Obj.cells #[Value.int IntKind.i64 x.tm, Value.slice a.A1 x.st.length a.c1, Value.slice a.A2 x.si.length a.c2, Value.slice a.A3 x.pu.length a.c3, Value.slice a.A4 x.he.length a.c4] 34)).heap.size = w.heap.size + 1 := by simp only [World.size_alloc]
  rw [hs] at hA
  clear hs
  generalize (w.alloc (Obj.cells #[Value.int IntKind.i64 x.tm, Value.slice a.A1 x.st.length a.c1, Value.slice a.A2 x.si.length a.c2, Value.slice a.A3 x.pu.length a.c3, Value.slice a.A4 x.he.length a.c4] 34)).alloc (Obj.cells #[Value.int IntKind.i64 n0, Value.int IntKind.i64 n1] 41) = W0 at hX hA hB ⊢
  have HXB := Aside0.mk hX
  have HAB := Aside0.mk hA
  have HB := Aside0.mk hB
  obtain ⟨xc0, -, xc1, -, xc2, -, xc3, -, xc4, -⟩ := box_open hX
  have ac0 : W0.cell? ⟨w.heap.size + 1, 0, none⟩ = some (.int .i64 n0) := (blk_cell hA 0).trans rfl
  have ac1 : W0.cell? ⟨w.heap.size + 1, 1, none⟩ = some (.int .i64 n1) := (blk_cell hA 1).trans rfl
  clear hX hA hB
  by_cases g0 : (40 : Int) < l.length
  · go_wp2_with (go_at_call 8; (with_reducible refine (awake_calls _).mono ?_); rintro e w1 ⟨rfl, hb1⟩; have HB1 := Aside0.mk hb1; clear hb1)
    go_ret
    exact ⟨rfl, (by repeat (first | exact below_step HB.out HB1.out | apply below_drew1 | apply pw_below_drewN))⟩
  by_cases g1 : (40 : Int) < x.st.length
  · go_wp2_with (go_at_call 8; (with_reducible refine (awake_calls _).mono ?_); rintro e w1 ⟨rfl, hb1⟩; have HB1 := Aside0.mk hb1; clear hb1)
    go_ret
    exact ⟨rfl, (by repeat (first | exact below_step HB.out HB1.out | apply below_drew1 | apply pw_below_drewN))⟩
  by_cases g2 : (40 : Int) < x.si.length
  · go_wp2_with (go_at_call 8; (with_reducible refine (awake_calls _).mono ?_); rintro e w1 ⟨rfl, hb1⟩; have HB1 := Aside0.mk hb1; clear hb1)
    go_ret
    exact ⟨rfl, (by repeat (first | exact below_step HB.out HB1.out | apply below_drew1 | apply pw_below_drewN))⟩
  by_cases g3 : (40 : Int) < x.pu.length
  · go_wp2_with (go_at_call 8; (with_reducible refine (awake_calls _).mono ?_); rintro e w1 ⟨rfl, hb1⟩; have HB1 := Aside0.mk hb1; clear hb1)
    go_ret
    exact ⟨rfl, (by repeat (first | exact below_step HB.out HB1.out | apply below_drew1 | apply pw_below_drewN))⟩
  by_cases g4 : (40 : Int) < x.he.length
  · go_wp2_with (go_at_call 8; (with_reducible refine (awake_calls _).mono ?_); rintro e w1 ⟨rfl, hb1⟩; have HB1 := Aside0.mk hb1; clear hb1)
    go_ret
    exact ⟨rfl, (by repeat (first | exact below_step HB.out HB1.out | apply below_drew1 | apply pw_below_drewN))⟩
  have HFIT := Aside0.mk (show Fit l.length by unfold Fit; omega)
  have HZ := Aside0.mk (show Lz x from ⟨by omega, by omega, by omega, by omega⟩)
  go_upto_region 3 with fail
  go_region_held3 (fun w' => w'.cell? ⟨w.heap.size, 0, none⟩ = some (Value.int IntKind.i64 x.tm) ∧ w'.cell? ⟨w.heap.size, 1, none⟩ = some (Value.slice a.A1 x.st.length a.c1) ∧ w'.cell? ⟨w.heap.size, 2, none⟩ = some (Value.slice a.A2 x.si.length a.c2) ∧ w'.cell? ⟨w.heap.size, 3, none⟩ = some (Value.slice a.A3 x.pu.length a.c3) ∧ w'.cell? ⟨w.heap.size, 4, none⟩ = some (Value.slice a.A4 x.he.length a.c4) ∧ w'.cell? ⟨w.heap.size + 1, 0, none⟩ = some (Value.int IntKind.i64 n0) ∧ w'.cell? ⟨w.heap.size + 1, 1, none⟩ = some (Value.int IntKind.i64 n1)) (first | assumption | go_keep) (first | (go_at_call 8; (with_reducible refine (awake_calls _).mono ?_); rintro e w1 ⟨rfl, hb1⟩; have S1 : w1.cell? ⟨w.heap.size, 0, none⟩ = some (Value.int IntKind.i64 x.tm) ∧ w1.cell? ⟨w.heap.size, 1, none⟩ = some (Value.slice a.A1 x.st.length a.c1) ∧ w1.cell? ⟨w.heap.size, 2, none⟩ = some (Value.slice a.A2 x.si.length a.c2) ∧ w1.cell? ⟨w.heap.size, 3, none⟩ = some (Value.slice a.A3 x.pu.length a.c3) ∧ w1.cell? ⟨w.heap.size, 4, none⟩ = some (Value.slice a.A4 x.he.length a.c4) ∧ w1.cell? ⟨w.heap.size + 1, 0, none⟩ = some (Value.int IntKind.i64 n0) ∧ w1.cell? ⟨w.heap.size + 1, 1, none⟩ = some (Value.int IntKind.i64 n1) := ⟨pw_cell_below hb1 (by simp [*]), pw_cell_below hb1 (by simp [*]), pw_cell_below hb1 (by simp [*]), pw_cell_below hb1 (by simp [*]), pw_cell_below hb1 (by simp [*]), pw_cell_below hb1 (by simp [*]), pw_cell_below hb1 (by simp [*])⟩; have HB1 := Aside0.mk (below_step (by repeat (first | exact HB.out | apply below_drew1 | apply pw_below_drewN)) hb1); clear hb1) | (go_at_call 18; (with_reducible refine (agree_calls l A c x a n0 n1 _ (Kd.C_below HL.out HB1.out) HC.out HFIT.out (HX.out.below HB1.out) HZ.out).mono ?_); rintro e w2 ⟨rfl, hb2⟩; have S2 : w2.cell? ⟨w.heap.size, 0, none⟩ = some (Value.int IntKind.i64 x.tm) ∧ w2.cell? ⟨w.heap.size, 1, none⟩ = some (Value.slice a.A1 x.st.length a.c1) ∧ w2.cell? ⟨w.heap.size, 2, none⟩ = some (Value.slice a.A2 x.si.length a.c2) ∧ w2.cell? ⟨w.heap.size, 3, none⟩ = some (Value.slice a.A3 x.pu.length a.c3) ∧ w2.cell? ⟨w.heap.size, 4, none⟩ = some (Value.slice a.A4 x.he.length a.c4) ∧ w2.cell? ⟨w.heap.size + 1, 0, none⟩ = some (Value.int IntKind.i64 n0) ∧ w2.cell? ⟨w.heap.size + 1, 1, none⟩ = some (Value.int IntKind.i64 n1) := ⟨pw_cell_below hb2 (by simp [*]), pw_cell_below hb2 (by simp [*]), pw_cell_below hb2 (by simp [*]), pw_cell_below hb2 (by simp [*]), pw_cell_below hb2 (by simp [*]), pw_cell_below hb2 (by simp [*]), pw_cell_below hb2 (by simp [*])⟩; have HB2 := Aside0.mk (below_step HB1.out hb2); clear hb2) | (go_at_call 19; (with_reducible refine (made_Mod.calls n0 (l.length : Int) m _ hm).mono ?_); rintro e w3 ⟨rfl, ⟨nq, rfl⟩⟩; have HB3 := Aside0.mk (pw_below_drewN HB2.out nq); have S3 : (w2.drewN nq).cell? ⟨w.heap.size, 0, none⟩ = some (Value.int IntKind.i64 x.tm) ∧ (w2.drewN nq).cell? ⟨w.heap.size, 1, none⟩ = some (Value.slice a.A1 x.st.length a.c1) ∧ (w2.drewN nq).cell? ⟨w.heap.size, 2, none⟩ = some (Value.slice a.A2 x.si.length a.c2) ∧ (w2.drewN nq).cell? ⟨w.heap.size, 3, none⟩ = some (Value.slice a.A3 x.pu.length a.c3) ∧ (w2.drewN nq).cell? ⟨w.heap.size, 4, none⟩ = some (Value.slice a.A4 x.he.length a.c4) ∧ (w2.drewN nq).cell? ⟨w.heap.size + 1, 0, none⟩ = some (Value.int IntKind.i64 n0) ∧ (w2.drewN nq).cell? ⟨w.heap.size + 1, 1, none⟩ = some (Value.int IntKind.i64 n1) := ⟨pw_cell_below (pw_below_drewN (Below.refl w2.heap.size w2) nq) (by simp [*]), pw_cell_below (pw_below_drewN (Below.refl w2.heap.size w2) nq) (by simp [*]), pw_cell_below (pw_below_drewN (Below.refl w2.heap.size w2) nq) (by simp [*]), pw_cell_below (pw_below_drewN (Below.refl w2.heap.size w2) nq) (by simp [*]), pw_cell_below (pw_below_drewN (Below.refl w2.heap.size w2) nq) (by simp [*]), pw_cell_below (pw_below_drewN (Below.refl w2.heap.size w2) nq) (by simp [*]), pw_cell_below (pw_below_drewN (Below.refl w2.heap.size w2) nq) (by simp [*])⟩) | (go_at_call 18; (with_reducible refine (agree_calls l A c x a m n1 _ (Kd.C_below HL.out HB3.out) HC.out HFIT.out (HX.out.below HB3.out) HZ.out).mono ?_); rintro e w4 ⟨rfl, hb4⟩; have S4 : w4.cell? ⟨w.heap.size, 0, none⟩ = some (Value.int IntKind.i64 x.tm) ∧ w4.cell? ⟨w.heap.size, 1, none⟩ = some (Value.slice a.A1 x.st.length a.c1) ∧ w4.cell? ⟨w.heap.size, 2, none⟩ = some (Value.slice a.A2 x.si.length a.c2) ∧ w4.cell? ⟨w.heap.size, 3, none⟩ = some (Value.slice a.A3 x.pu.length a.c3) ∧ w4.cell? ⟨w.heap.size, 4, none⟩ = some (Value.slice a.A4 x.he.length a.c4) ∧ w4.cell? ⟨w.heap.size + 1, 0, none⟩ = some (Value.int IntKind.i64 n0) ∧ w4.cell? ⟨w.heap.size + 1, 1, none⟩ = some (Value.int IntKind.i64 n1) := ⟨pw_cell_below hb4 (by simp [*]), pw_cell_below hb4 (by simp [*]), pw_cell_below hb4 (by simp [*]), pw_cell_below hb4 (by simp [*]), pw_cell_below hb4 (by simp [*]), pw_cell_below hb4 (by simp [*]), pw_cell_below hb4 (by simp [*])⟩; have HB4 := Aside0.mk (below_step HB3.out hb4); clear hb4))
  go_wp2_with fail
  go_ret
  exact ⟨rfl, (by repeat (first | exact HB4.out | apply below_drew1 | apply pw_below_drewN))⟩
end Go.Proofs.Ytejmjeanhlkenaa.HandA
