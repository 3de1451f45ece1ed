/- RopeRaw: all functions of package rope return what the reference returns, for any rope, state and force, at times of all kinds. For every input. -/
import Derived.Test.YtcebojamjllmjaaRows
import Derived.Test.YtcebojamjllmjaaPRopex2
import Derived.Test.YtcebojamjllmjaaPureRopeRaw
import Derived.WalkKit
import Derived.ProofKit
import Derived.OpenShut
import Derived.ShutString
import Derived.ChangeOld
import Derived.Below
import Derived.SizedLaws
import Derived.Lib.SmallJoins
namespace Go.Proofs.Ytcebojamjllmjaa.ropeRaw
open Go.ChangeShapes Go.WideShapes Go.ChangeAt Go.RowKit Go.Joins
set_option linter.unusedVariables false
theorem own : ownKnob Try.prog.godebug = none := by kernel_rfl
theorem laidOut : laidOutB Try.prog = true := by kernel_rfl
theorem cells23 : Try.prog.cellsOf 23 = 3 := by kernel_rfl
theorem cells25 : Try.prog.cellsOf 25 = 3 := by kernel_rfl
theorem cells27 : Try.prog.cellsOf 27 = 2 := by kernel_rfl
set_option maxRecDepth 100000 in
theorem lifted (os : Os) (started : os.Started) (H : Type) (enc : TypeId × Value → H) :
    ReturnsInHanded {} Try.checked os 3 .any (Rows.ropeRawSpec.pre6 enc Try.prog Try.f3 Rows.ropeRawRow.domain false) (Rows.ropeRawSpec.post enc Try.prog Try.f3 false true false false) := by
  refine returnsInHanded_of_change_sized (C := Try.checked) own started (by kernel_rfl) Try.func3
    (ChangeSpec.witness6 (enc := enc) (C := Try.checked) false ⟨#[], #[.agg #[.int .i64 0, .int .i64 0, .int .i64 0], .agg #[.int .i64 0, .int .i64 0, .bool false], .agg #[.int .i64 0, .int .i64 0]], []⟩ 8 (by kernel_rfl) (by kernel_rfl) (by kernel_rfl) (by kernel_rfl)) ?_
  intro W base args ds gs before hval0 hW hcnd hsz0 _
  have hval : ∀ (j : Nat) t v, Try.f3.params[j]? = some t → args[j]? = some v → Value.okWide Try.prog W .any base t v := hval0
  have hW' := hW
  obtain ⟨p, q, hA0, hV, rfl, hfz, hnd⟩ := hW
  have hA : DataW.TrodAll enc Try.prog W 0 (fun _ => true) true Try.f3.params.toList args.toList ds p := hA0
  rw [Try.params3] at hA hval
  obtain ⟨v0, vs0, d0, ds0, p0, q0, hargs, rfl, rfl, h0, r0⟩ := trodAll_cons hA
  obtain ⟨v1, vs1, d1, ds1, p1, q1, rfl, rfl, rfl, h1, r1⟩ := trodAll_cons r0
  obtain ⟨v2, vs2, d2, ds2, p2, q2, rfl, rfl, rfl, h2, r2⟩ := trodAll_cons r1
  obtain ⟨rfl, rfl, rfl⟩ := trodAll_nil r2
  obtain rfl : args = #[v0, v1, v2] := by cases args; simp_all
  obtain ⟨rfl, rfl⟩ := trodVars_none hV
  have k0 := h0
  have k1 := h1
  have k2 := h2
  have lt0 : ∀ x ∈ p0, x.block < W.heap.size := by obtain ⟨m, hm⟩ := k0; exact DataW.trod_lt m _ _ _ hm
  have lt1 : ∀ x ∈ p1, x.block < W.heap.size := by obtain ⟨m, hm⟩ := k1; exact DataW.trod_lt m _ _ _ hm
  have lt2 : ∀ x ∈ p2, x.block < W.heap.size := by obtain ⟨m, hm⟩ := k2; exact DataW.trod_lt m _ _ _ hm
  have hv0 : ∃ a b c : Int, v0 = .agg #[.int .i64 a, .int .i64 b, .int .i64 c] := by
    obtain ⟨x0, x1, x2, y0, y1, y2, m, rfl, _, _, t0, t1, t2⟩ := open_agg3 Try.underlying23 (by kernel_rfl) cells23 (hval 0 23 v0 rfl rfl) h0
    obtain ⟨a, e0, _, _⟩ := DataW.trod_int Try.underlying3 t0
    obtain ⟨b, e1, _, _⟩ := DataW.trod_int Try.underlying3 t1
    obtain ⟨c, e2, _, _⟩ := DataW.trod_int Try.underlying3 t2
    simp only [List.cons.injEq, and_true] at e0 e1 e2
    exact ⟨a, b, c, by rw [e0, e1, e2]⟩
  have hv1 : ∃ (a b : Int) (c : Bool), v1 = .agg #[.int .i64 a, .int .i64 b, .bool c] := by
    obtain ⟨x0, x1, x2, y0, y1, y2, m, rfl, _, _, t0, t1, t2⟩ := open_agg3 Try.underlying25 (by kernel_rfl) cells25 (hval 1 25 v1 rfl rfl) h1
    obtain ⟨a, e0, _, _⟩ := DataW.trod_int Try.underlying3 t0
    obtain ⟨b, e1, _, _⟩ := DataW.trod_int Try.underlying3 t1
    obtain ⟨c, e2, _⟩ := DataW.trod_bool Try.underlying4 t2
    simp only [List.cons.injEq, and_true] at e0 e1 e2
    exact ⟨a, b, c, by rw [e0, e1, e2]⟩
  have hv2 : ∃ a b : Int, v2 = .agg #[.int .i64 a, .int .i64 b] := by
    obtain ⟨x0, x1, y0, y1, m, rfl, _, _, t0, t1⟩ := open_agg2 Try.underlying27 (by kernel_rfl) cells27 (hval 2 27 v2 rfl rfl) h2
    obtain ⟨a, e0, _, _⟩ := DataW.trod_int Try.underlying3 t0
    obtain ⟨b, e1, _, _⟩ := DataW.trod_int Try.underlying3 t1
    simp only [List.cons.injEq, and_true] at e0 e1
    exact ⟨a, b, by rw [e0, e1]⟩
  obtain ⟨a0, a1, a2, rfl⟩ := hv0
  obtain ⟨b0, b1, b2, rfl⟩ := hv1
  obtain ⟨c0, c1, rfl⟩ := hv2
  clear hA0 hval0 hsz0
  obtain ⟨k, h⟩ := Pure.RopeRaw a0 a1 a2 b0 b1 b2 c0 c1
  refine (PRope.law38_RopeRaw.calls k a0 a1 a2 b0 b1 b2 c0 c1 true W h).mono fun e W' ⟨he, bel⟩ => ?_
  subst he
  exact ⟨_, rfl, _, _, _, [], _, [], hW', trodAll_mk1 (shut_bool Try.underlying4 _), (trodAll_cons_mk (Below.trod laidOut (by kernel_rfl) (of_decide_eq_true (by kernel_rfl)) k0 bel lt0) (trodAll_cons_mk (Below.trod laidOut (by kernel_rfl) (of_decide_eq_true (by kernel_rfl)) k1 bel lt1) (trodAll_cons_mk (Below.trod laidOut (by kernel_rfl) (of_decide_eq_true (by kernel_rfl)) k2 bel lt2) trodAll_mk0))), rfl, bel.frame _, fun h => by cases h⟩
theorem over : Rows.ropeRawRow.holds Try.pinned (OpenSpec.ofChange Rows.ropeRawSpec) :=
  OpenClaim.holds_of_wide 3 Try.f3 rfl rfl rfl rfl rfl rfl rfl ⟨rfl, rfl, rfl, rfl, rfl⟩ rfl rfl rfl rfl rfl (by kernel_rfl) Try.func3 (by kernel_rfl)
    (of_decide_eq_true (by kernel_rfl)) (by unfold Func.isWrapper; first | (rw [if_pos (by decide +kernel)]; kernel_rfl) | (rw [if_neg (by decide +kernel)]; exact ⟨rfl, rfl⟩))
    (fun os started H enc _ => lifted os started H enc)
theorem proved : Rows.RopeRawSaid := over
#print axioms proved
end Go.Proofs.Ytcebojamjllmjaa.ropeRaw
namespace Go.Proofs.Ytcebojamjllmjaa
/-- The row, under a short name, for the claim. -/
theorem ropeRaw_holds : Rows.RopeRawSaid := ropeRaw.proved
end Go.Proofs.Ytcebojamjllmjaa
