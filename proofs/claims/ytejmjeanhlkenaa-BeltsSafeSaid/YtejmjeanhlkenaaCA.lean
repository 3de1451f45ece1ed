import Derived.Test.YtejmjeanhlkenaaCP0
import Derived.Lib.SliceRun
/- slices.Clone of whole numbers and of bools returns a row of the call's own with the same elements; a call of a function value. Conditions: the slice can be read. -/
namespace Go.Proofs.Ytejmjeanhlkenaa.HandA
open Go.RowKit Go.Proofs.Ytejmjeanhlkenaa.PB Go.Proofs.YtejmjeanhlkenaaW.PrintWords Go.Proofs.YtejmjeanhlkenaaW.PrintLast Go.Proofs.YtejmjeanhlkenaaW.PrintMore
set_option linter.unusedVariables false
set_option linter.unusedSimpArgs false

set_option maxHeartbeats 8000000 in
set_option maxRecDepth 100000 in
/-- slices.Clone of whole numbers: a row of the call's own with the same numbers. -/
theorem clone_int (A : Option Addr) (c : Nat) (xs : List Int) (w : World) (hr : Kd.C (Kd.int .i64) w A xs.length xs) (hl : xs.length < 17592186044416) :
    Calls Try.prog 54 #[.slice A xs.length c] w fun e w' => ∃ v, e = .returned v ∧ Kd.R (Kd.int .i64) 3 w' w.heap.size (fun _ => True) v xs ∧ Below w.heap.size w w' := by
  have HR := Aside0.mk hr
  clear hr
  have hnil : ∀ n w, (binOp .eql 22 (.slice A n c) (.slice none 0 0)).run Try.prog w = .ok (.bool A.isNone) w := fun n w => Lib.run_eql_slice_nil w 22 3 A n c 0 0 Try.underlying22
  go_enter Try.func54, Try.ntmps54
  cases A with
  | none =>
    have : xs = [] := by
      by_cases h : 0 < xs.length
      · obtain ⟨ad, he, _⟩ := HR.out.2.2 h
        cases he
      · exact List.eq_nil_of_length_eq_zero (by omega)
    subst this
    go_wp2
    go_ret
    exact ⟨_, rfl, Kd.R_nil _ _ _ _ _, Below.refl _ _⟩
  | some ad =>
    go_wp2_with (first
      | ((with_reducible refine gate_dst (N := 5) rfl ?_); refine Kd.R_lit (Kd.int .i64) _ 3 ?hg (N := 5) ?hd (xs := ([] : List Int)) (inner := []) (ok := fun _ => True) (okp := fun _ => True) ?hr ?hp (fun _ hk => hk) trivial (Below.refl _ _) (Nat.le_refl _) (by simp) ?_; (case hd => rfl); (case hg => rfl); (case hr => first | (go_simp; done) | (go_simp; rfl)); (case hp => exact Reps.none _ _); intro v5 w5 ho5 hb hg_ hnew_; clear hg_ hnew_; have HO5 := Aside0.mk ho5; have HB := Aside0.mk hb; clear ho5 hb)
      | ((with_reducible refine gate_builtin (b := .append) (xs := #[.tmp 5, .tmp 6]) rfl ?_); refine Kd.R_append_rows (Kd.int .i64) (w0 := w) w.heap.size rfl (.tmp 5) (.tmp 6) 22 3 (.int .i64 0) 8 rfl Try.underlying22 info3 rfl (by decide) (by omega) v5 ([] : List Int) xs _ _ _ (fun _ => True) (fun _ => False) rfl rfl ?aO ?aR (fun _ _ h => h) (fun _ h => h.elim) ?aF ?aB ?aS ?aL ?_; (case aF => exact (fun _ _ => trivial)); (case aO => exact HO5.out); (case aR => exact Kd.C_below HR.out HB.out); (case aB => exact HB.out); (case aS => exact below_size HB.out); (case aL => simp only [List.length_nil]; omega); intro v7 w7 ho7 hb7 hg7 hat7; clear hg7 hat7; rw [List.nil_append] at ho7))
    go_ret
    exact ⟨_, rfl, ho7, hb7⟩
set_option maxHeartbeats 8000000 in
set_option maxRecDepth 100000 in
/-- slices.Clone of bools. -/
theorem clone_bool (A : Option Addr) (c : Nat) (xs : List Bool) (w : World) (hr : Kd.C Kd.bool w A xs.length xs) (hl : xs.length < 17592186044416) :
    Calls Try.prog 55 #[.slice A xs.length c] w fun e w' => ∃ v, e = .returned v ∧ Kd.R Kd.bool 4 w' w.heap.size (fun _ => True) v xs ∧ Below w.heap.size w w' := by
  have HR := Aside0.mk hr
  clear hr
  have hnil : ∀ n w, (binOp .eql 32 (.slice A n c) (.slice none 0 0)).run Try.prog w = .ok (.bool A.isNone) w := fun n w => Lib.run_eql_slice_nil w 32 4 A n c 0 0 Try.underlying32
  go_enter Try.func55, Try.ntmps55
  cases A with
  | none =>
    have : xs = [] := by
      by_cases h : 0 < xs.length
      · obtain ⟨ad, he, _⟩ := HR.out.2.2 h
        cases he
      · exact List.eq_nil_of_length_eq_zero (by omega)
    subst this
    go_wp2
    go_ret
    exact ⟨_, rfl, Kd.R_nil _ _ _ _ _, Below.refl _ _⟩
  | some ad =>
    go_wp2_with (first
      | ((with_reducible refine gate_dst (N := 5) rfl ?_); refine Kd.R_lit Kd.bool _ 4 ?hg (N := 5) ?hd (xs := ([] : List Bool)) (inner := []) (ok := fun _ => True) (okp := fun _ => True) ?hr ?hp (fun _ hk => hk) trivial (Below.refl _ _) (Nat.le_refl _) (by simp) ?_; (case hd => rfl); (case hg => rfl); (case hr => first | (go_simp; done) | (go_simp; rfl)); (case hp => exact Reps.none _ _); intro v5 w5 ho5 hb hg_ hnew_; clear hg_ hnew_; have HO5 := Aside0.mk ho5; have HB := Aside0.mk hb; clear ho5 hb)
      | ((with_reducible refine gate_builtin (b := .append) (xs := #[.tmp 5, .tmp 6]) rfl ?_); refine Kd.R_append_rows Kd.bool (w0 := w) w.heap.size rfl (.tmp 5) (.tmp 6) 32 4 (.bool false) 1 rfl Try.underlying32 info4 rfl (by decide) (by omega) v5 ([] : List Bool) xs _ _ _ (fun _ => True) (fun _ => False) rfl rfl ?aO ?aR (fun _ _ h => h) (fun _ h => h.elim) ?aF ?aB ?aS ?aL ?_; (case aF => exact (fun _ _ => trivial)); (case aO => exact HO5.out); (case aR => exact Kd.C_below HR.out HB.out); (case aB => exact HB.out); (case aS => exact below_size HB.out); (case aL => simp only [List.length_nil]; omega); intro v7 w7 ho7 hb7 hg7 hat7; clear hg7 hat7; rw [List.nil_append] at ho7))
    go_ret
    exact ⟨_, rfl, ho7, hb7⟩

/-- One block alone was written. -/
structure Same (W W' : World) (B : Nat) : Prop where
  os : W'.os = W.os
  tape : W'.tape = W.tape
  output : W'.output = W.output
  size : W'.heap.size = W.heap.size
  block : ∀ k, k ≠ B → W'.heap[k]? = W.heap[k]?
theorem Same.refl (W : World) (B : Nat) : Same W W B := ⟨rfl, rfl, rfl, rfl, fun _ _ => rfl⟩
theorem Same.set {W W' : World} {B : Nat} (h : Same W W' B) (i : Nat) (u : Value) : Same W (W'.setCell ⟨B, i, none⟩ u) B :=
  ⟨h.os, h.tape, h.output, (by simp [World.setCell, h.size]), fun k hk => (Below.heap_setCell W' ⟨B, i, none⟩ u k hk).trans (h.block k hk)⟩
theorem Same.drew {W W' : World} {B : Nat} (h : Same W W' B) : Same W W'.drew B := ⟨h.os, h.tape, h.output, h.size, h.block⟩
theorem below_same {b B : Nat} {w W W' : World} (h : Below b w W) (s : Same W W' B) (hb : b ≤ B) : Below b w W' :=
  h.trans ⟨s.os, s.tape, s.output, Nat.le_of_eq s.size.symm, fun k hk => s.block k (by omega)⟩
theorem blk_same {k B : Nat} {o : Obj} {W W' : World} (h : W.heap[k]? = some o) (s : Same W W' B) (hk : k ≠ B) : W'.heap[k]? = some o := (s.block k hk).trans h
theorem R_same {α : Type} {d : Kd α} {e base B : Nat} {ok : Nat → Prop} {v : Value} {xs : List α} {W W' : World} (h : d.R e W base ok v xs) (s : Same W W' B) (hok : ∀ k, ok k → k ≠ B) : d.R e W' base ok v xs := Kd.R_move h (fun k hk => s.block k (hok k hk))
/-- .. by the blocks' types. -/
theorem R_sameT {α : Type} {d : Kd α} {e base B t : Nat} {ok : Nat → Prop} {v : Value} {xs : List α} {W W' : World} {cs : Array Value} (h : d.R e W base ok v xs) (s : Same W W' B) (hb : W.heap[B]? = some (.cells cs t (0, 0))) (ht : ∀ q, q ∈ e :: d.E → q ≠ t) : d.R e W' base ok v xs :=
  Kd.R_mono (R_same (Kd.R_types h hb ht) s (fun _ hk => hk.2)) (fun _ hk => hk.1)
theorem set5 {W : World} {B t : Nat} {a0 a1 a2 a3 a4 : Value} (h : W.heap[B]? = some (.cells #[a0, a1, a2, a3, a4] t (0, 0))) (b0 b1 b2 b3 b4 : Value) :
    (((((W.setCell ⟨B, 0, none⟩ b0).setCell ⟨B, 1, none⟩ b1).setCell ⟨B, 2, none⟩ b2).setCell ⟨B, 3, none⟩ b3).setCell ⟨B, 4, none⟩ b4).heap[B]? = some (.cells #[b0, b1, b2, b3, b4] t (0, 0)) :=
  blk_set (blk_set (blk_set (blk_set (blk_set h 0 b0) 1 b1) 2 b2) 3 b3) 4 b4
theorem same5 (W : World) (B : Nat) (b0 b1 b2 b3 b4 : Value) :
    Same W (((((W.setCell ⟨B, 0, none⟩ b0).setCell ⟨B, 1, none⟩ b1).setCell ⟨B, 2, none⟩ b2).setCell ⟨B, 3, none⟩ b3).setCell ⟨B, 4, none⟩ b4) B :=
  (((((Same.refl W B).set 0 b0).set 1 b1).set 2 b2).set 3 b3).set 4 b4

section
variable {P : Program} {ops : Array Oper} {Q : Exit → Act → World → Prop}
/-- A call of a function value in a plain region. -/
theorem goesV_ {rest : List Oper} {oi : Oper} {a : Act} {w : World} (N : Option Tmp) (hd : oi.dst = N) (hg : oi.guard = none) {f : FuncId} {fn : Func} {fv : Operand} {ars : Array Operand} {ts : Array TypeId} {caps : Array Value}
    (hf : P.funcs[f]? = some fn) (hname : (fn.name == "runtime.NumGoroutine") = false) (hb : fn.body.isSome = true) (args : Array Value)
    (hop : oi.op = .call { callee := .value fv, args := ars, argTypes := ts }) (hv : a.eval fv = .func (.func f) #[] caps) (hargs : ars.map a.eval = args)
    (h : Calls P f (args ++ caps) w fun e w' => ∃ v, e = .returned v ∧ wpList P ops Q rest (a.put N v) w') : wpList P ops Q (oi :: rest) a w := by
  refine wpList_plain hg fun K hK => ?_
  have he := enters_ hf hname hb (args ++ caps) w
  have hrun : (execOp a.eval oi).run P w = .ok (.enter f (args ++ caps)) w := by
    unfold execOp
    simp [hop, hv, resolve, Deferred.ofValue, invoke, hargs, he]
  unfold Oper.wp
  rw [hrun, Oper.upon_enter]
  refine h.mono fun e w'' hh => ?_
  obtain ⟨v, rfl, hk⟩ := hh
  subst hd
  exact hK _ _ hk
end
end Go.Proofs.Ytejmjeanhlkenaa.HandA
