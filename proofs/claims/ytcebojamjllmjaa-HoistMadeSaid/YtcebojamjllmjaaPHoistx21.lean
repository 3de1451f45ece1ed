-- written by wip/myprint.py (the kit's print over hand-proved contracts)
import Derived.Test.YtcebojamjllmjaaPHoistx0
import Derived.Test.YtcebojamjllmjaaHHoist
namespace Go.Proofs.Ytcebojamjllmjaa.PHoist
open Go.RowKit Go.Proofs.YtcebojamjllmjaaW.PrintWords Go.Proofs.YtcebojamjllmjaaW.PrintLast Go.Proofs.YtcebojamjllmjaaW.PrintMore
attribute [local go_sem] max2_int min2_int max_two min_two max_three min_three max_four min_four   -- for this text's walks alone
set_option linter.unusedVariables false
set_option linter.unusedSimpArgs false

open Go.Proofs.Ytcebojamjllmjaa.HandH
/-! ### ref37_Stop: function 34 -/
def ref37_Stop.f (a0_0 : Int) (a0_1 : Int) (a0_2 : Int) (a0_3 : Int) (a0_4 : Int) (a1 : Int) : Option (Int) := if (wrap64 (2 * a0_2)) = 0 then (none) else (some (wrap64 (Int.tdiv (wrap64 ((wrap64 ((wrap64 (a1 * a1)) + (wrap64 (2 * a0_2)))) - 1)) (wrap64 (2 * a0_2)))))
set_option maxHeartbeats 8000000 in
set_option maxRecDepth 100000 in
theorem ref37_Stop.calls (a0_0 : Int) (a0_1 : Int) (a0_2 : Int) (a0_3 : Int) (a0_4 : Int) (a1 : Int) (r : Int) (w : World) (h : ref37_Stop.f a0_0 a0_1 a0_2 a0_3 a0_4 a1 = some r) :
  Calls Try.prog 34 #[.agg #[.int .i64 a0_0, .int .i64 a0_1, .int .i64 a0_2, .int .i64 a0_3, .int .i64 a0_4], .int .i64 a1] w fun e w' => e = .returned (.int .i64 r) ∧ Below w.heap.size w w' := by
 have hu45 := Try.underlying45
 have HB := Aside0.mk (Below.refl w.heap.size w)
 have H : (if (wrap64 (2 * a0_2)) = 0 then (none) else (some (wrap64 (Int.tdiv (wrap64 ((wrap64 ((wrap64 (a1 * a1)) + (wrap64 (2 * a0_2)))) - 1)) (wrap64 (2 * a0_2)))))) = some r := h
 clear h
 by_cases c3 : (wrap64 (2 * a0_2)) = 0
 ·rw [if_pos c3] at H
  exact absurd H (by simp)
 ·rw [if_neg c3] at H
  have c3b0 : ((wrap64 (2 * a0_2)) == 0) = false := beq_eq_false_iff_ne.mpr c3
  have c3b1 : ((wrap64 (2 * a0_2)) != 0) = true := bne_iff_ne.mpr c3
  obtain rfl := Option.some.inj H
  go_enter Try.func34, Try.ntmps34
  go_wp2_with (first | ((with_reducible refine gate_dst (N := 2) rfl ?_); refine box_event ?hg (N := 2) ?hd (cs := #[.int .i64 a0_0, .int .i64 a0_1, .int .i64 a0_2, .int .i64 a0_3, .int .i64 a0_4]) (t := 45) ?hr ?_; (case hd => rfl); (case hg => rfl); (case hr => first | (go_simp; done) | (go_simp; rfl)); intro gb335 hg w4 hbox hb; have n0_ := Aside0.mk (below_step (by repeat (first | (with_reducible first | exact HB.out | apply below_alloc | apply pw_below_drewN | apply below_drew1) | exact HB.out)) hb); have n1_ := Aside0.mk (hbox); have n2_ := Aside0.mk ((by rw [hg]; exact (below_size (by repeat (first | (with_reducible first | exact HB.out | apply below_alloc | apply pw_below_drewN | apply below_drew1) | exact HB.out))) : w.heap.size ≤ gb335)); have n3_ := Aside0.mk ((by rw [hg]; exact (below_size (by repeat (first | (with_reducible first | exact HB.out | apply below_alloc | apply pw_below_drewN | apply below_drew1) | exact HB.out))) : w.heap.size ≤ gb335)); clear HB; have HB := n0_; have BK335 := n1_; have GW335 := n2_; have GE335 := n3_; clear n0_ n1_ n2_ n3_; clear hb hbox hg; have hcz5_0 : w4.cell? ⟨gb335, 0, none⟩ = some (.int .i64 a0_0) := (blk_cell BK335.out 0).trans rfl; have hcz5_1 : w4.cell? ⟨gb335, 1, none⟩ = some (.int .i64 a0_1) := (blk_cell BK335.out 1).trans rfl; have hcz5_2 : w4.cell? ⟨gb335, 2, none⟩ = some (.int .i64 a0_2) := (blk_cell BK335.out 2).trans rfl; have hcz5_3 : w4.cell? ⟨gb335, 3, none⟩ = some (.int .i64 a0_3) := (blk_cell BK335.out 3).trans rfl; have hcz5_4 : w4.cell? ⟨gb335, 4, none⟩ = some (.int .i64 a0_4) := (blk_cell BK335.out 4).trans rfl; have hfz5_0 := blk_frozen BK335.out 0; have hfz5_1 := blk_frozen BK335.out 1; have hfz5_2 := blk_frozen BK335.out 2; have hfz5_3 := blk_frozen BK335.out 3; have hfz5_4 := blk_frozen BK335.out 4))
  go_ret
  exact ⟨by first | rfl | (simp [errW_none, errW_some] <;> rfl) | (simp [*, errW_none, errW_some] <;> rfl), by repeat (first | (with_reducible first | exact HB.out | apply below_alloc | apply pw_below_drewN | apply below_drew1 | refine below_set ?_ GE335.out) | exact HB.out)⟩

end Go.Proofs.Ytcebojamjllmjaa.PHoist
