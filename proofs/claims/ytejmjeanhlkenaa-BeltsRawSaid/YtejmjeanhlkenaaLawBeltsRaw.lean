/- BeltsRaw: for any belts, line and numbers. -/
import Derived.Test.YtejmjeanhlkenaaRows
import Derived.Test.YtejmjeanhlkenaaCX2
import Derived.WalkKit
import Derived.ProofKit
import Derived.OpenShut
import Derived.ShutString
import Derived.ChangeOld
import Derived.Below
import Derived.SizedLaws
import Derived.Lib.SmallJoins
import Derived.Deep.SlicePairs
namespace Go.Proofs.Ytejmjeanhlkenaa.beltsRaw
open Go.ChangeShapes Go.WideShapes Go.ChangeAt Go.RowKit Go.Joins Go.Deep
open Go.Proofs.Ytejmjeanhlkenaa.PB Go.Proofs.Ytejmjeanhlkenaa.HandA Go.Proofs.YtejmjeanhlkenaaW.PrintWords
set_option linter.unusedVariables false
set_option linter.unusedSimpArgs false
theorem own : ownKnob Try.prog.godebug = none := by kernel_rfl
theorem laidOut : laidOutB Try.prog = true := by kernel_rfl
theorem cells34 : Try.prog.cellsOf 34 = 5 := by kernel_rfl
theorem cells41 : Try.prog.cellsOf 41 = 2 := by kernel_rfl
section
variable {H : Type} {enc : TypeId × Value → H} {W : World}
/-- A slice of numbers is read. -/
theorem ints_read {a : Option Addr} {n c fuel : Nat} {y : DataW H × List MemPlace} (h : DataW.trod enc Try.prog W 0 (fun _ => true) true fuel 22 [.slice a n c] = some y) : ∃ xs : List Int, xs.length = n ∧ n ≤ c ∧ Kd.C (Kd.int .i64) W a n xs := by
  rcases open_ints Try.underlying22 Try.underlying3 (by kernel_rfl) h with ⟨hcs, _⟩ | ⟨x, l, k, zs, hcs, _, hl, hm, hz, _, hcell, hwz⟩
  · simp only [List.cons.injEq, Value.slice.injEq, and_true] at hcs
    obtain ⟨rfl, rfl, rfl⟩ := hcs
    exact ⟨[], rfl, Nat.le_refl _, Kd.C_nil _ _⟩
  · simp only [List.cons.injEq, Value.slice.injEq, and_true] at hcs
    obtain ⟨rfl, rfl, rfl⟩ := hcs
    have hz' : zs.length = c := by simpa using hz
    have hlen : (zs.take n).length = n := by rw [List.length_take]; omega
    refine ⟨zs.take n, hlen, hl, hlen, by unfold maxLen at hm; omega, fun _ => ⟨_, rfl, fun j p hj => ?_⟩⟩
    have hj1 : j < n := by have := (List.getElem?_eq_some_iff.1 hj).1; omega
    rw [List.getElem?_take_of_lt hj1] at hj
    have hcj := hcell j (by omega)
    rw [List.getD_eq_getElem?_getD, hj] at hcj
    refine ⟨[.int .i64 p], rfl, rfl, fun i u hu => ?_⟩
    rcases i with _ | i
    · cases hu
      show W.cell? (x.add (j * 1 + 0)) = _
      rw [Nat.mul_one, Nat.add_zero]
      exact hcj
    · cases hu
/-- .. of bools. -/
theorem bools_read {a : Option Addr} {n c fuel : Nat} {y : DataW H × List MemPlace} (h : DataW.trod enc Try.prog W 0 (fun _ => true) true fuel 32 [.slice a n c] = some y) : ∃ xs : List Bool, xs.length = n ∧ n ≤ c ∧ Kd.C Kd.bool W a n xs := by
  rcases open_slice1 Try.underlying32 (by kernel_rfl) h with ⟨hcs, _⟩ | ⟨x, l, k, m, q, V, D, Pl, hcs, _, hl, hm, hmm, _, hi⟩
  · simp only [List.cons.injEq, Value.slice.injEq, and_true] at hcs
    obtain ⟨rfl, rfl, rfl⟩ := hcs
    exact ⟨[], rfl, Nat.le_refl _, Kd.C_nil _ _⟩
  · simp only [List.cons.injEq, Value.slice.injEq, and_true] at hcs
    obtain ⟨rfl, rfl, rfl⟩ := hcs
    have hmm' : m = c := by simpa using hmm
    have each : ∀ j, j < n → ∃ b : Bool, W.cell? (x.add j) = some (.bool b) := fun j hj => by
      obtain ⟨hc, ht⟩ := hi j (by omega)
      obtain ⟨b, e, _⟩ := DataW.trod_bool Try.underlying4 ht
      simp only [List.cons.injEq, and_true] at e
      exact ⟨b, by rw [hc, e]⟩
    let f : Nat → Bool := fun j => if h : j < n then (each j h).choose else false
    refine ⟨(List.range n).map f, by simp, hl, by simp, by unfold maxLen at hm; omega, fun _ => ⟨_, rfl, fun j p hj => ?_⟩⟩
    have hj1 : j < n := by have := (List.getElem?_eq_some_iff.1 hj).1; simpa using this
    simp only [List.getElem?_map, List.getElem?_range hj1, Option.map_some, Option.some.injEq] at hj
    have hf : f j = (each j hj1).choose := by simp only [f, dif_pos hj1]
    refine ⟨[.bool p], rfl, rfl, fun i u hu => ?_⟩
    rcases i with _ | i
    · cases hu
      show W.cell? (x.add (j * 1 + 0)) = _
      rw [← hj, hf, Nat.mul_one, Nat.add_zero]
      exact (each j hj1).choose_spec
    · cases hu
/-- .. of belts. -/
theorem belts_read {a : Option Addr} {n c fuel : Nat} {y : DataW H × List MemPlace} (h : DataW.trod enc Try.prog W 0 (fun _ => true) true fuel 27 [.slice a n c] = some y) : ∃ xs : List S31, xs.length = n ∧ n ≤ c ∧ Kd.C k31 W a n xs := by
  rcases open_slice_pairs Try.underlying27 Try.underlying31 (by kernel_rfl) rfl rfl (by kernel_rfl) (by kernel_rfl) h with ⟨hcs, _⟩ | ⟨x, l, k, m, q, V0, V1, D0, D1, P0, P1, hcs, _, hl, hm, hmm, _, hi⟩
  · simp only [List.cons.injEq, Value.slice.injEq, and_true] at hcs
    obtain ⟨rfl, rfl, rfl⟩ := hcs
    exact ⟨[], rfl, Nat.le_refl _, Kd.C_nil _ _⟩
  · simp only [List.cons.injEq, Value.slice.injEq, and_true] at hcs
    obtain ⟨rfl, rfl, rfl⟩ := hcs
    have hmm' : m = c := by simpa using hmm
    have each : ∀ j, j < n → ∃ b : S31, W.cell? (x.add (j * 2)) = some (.int .i64 b.f0) ∧ W.cell? (x.add (j * 2 + 1)) = some (.int .i64 b.f1) := fun j hj => by
      obtain ⟨hc0, hc1, ht0, ht1⟩ := hi j (by omega)
      obtain ⟨p, e0, _, _⟩ := DataW.trod_int Try.underlying3 ht0
      obtain ⟨r, e1, _, _⟩ := DataW.trod_int Try.underlying3 ht1
      simp only [List.cons.injEq, and_true] at e0 e1
      exact ⟨⟨p, r⟩, by rw [hc0, e0], by rw [hc1, e1]⟩
    let f : Nat → S31 := fun j => if h : j < n then (each j h).choose else ⟨0, 0⟩
    refine ⟨(List.range n).map f, by simp, hl, by simp, by unfold maxLen at hm; omega, fun _ => ⟨_, rfl, fun j p hj => ?_⟩⟩
    have hj1 : j < n := by have := (List.getElem?_eq_some_iff.1 hj).1; simpa using this
    simp only [List.getElem?_map, List.getElem?_range hj1, Option.map_some, Option.some.injEq] at hj
    have hf : f j = (each j hj1).choose := by simp only [f, dif_pos hj1]
    have hsp := (each j hj1).choose_spec
    rw [← hf, hj] at hsp
    refine ⟨[.int .i64 p.f0, .int .i64 p.f1], rfl, ⟨_, _, rfl, rfl, rfl⟩, fun i u hu => ?_⟩
    rcases i with _ | _ | i
    · cases hu
      exact hsp.1
    · cases hu
      exact hsp.2
    · cases hu
end
section
variable {H : Type} {enc : TypeId × Value → H} {W : World}
/-- A line, given by value. -/
theorem line_read {r : Reach} {b0 : Nat} {v : Value} {d : DataW H} {p : List MemPlace} (hv : Value.okWide Try.prog W r b0 34 v) (h : DataW.Trod enc Try.prog W 0 (fun _ => true) true 34 v d p) :
    ∃ (x : Ln) (a : La), v = .agg #[.int .i64 x.tm, .slice a.A1 x.st.length a.c1, .slice a.A2 x.si.length a.c2, .slice a.A3 x.pu.length a.c3, .slice a.A4 x.he.length a.c4] ∧ LC W a x := by
  obtain ⟨cs, rfl, hsz⟩ := okWide_struct Try.underlying34 hv
  rw [cells34] at hsz
  obtain ⟨ls⟩ := cs
  obtain ⟨fuel, hf⟩ := h
  obtain ⟨xs, m, _, _, _, hlen, hg⟩ := DataW.trod_struct Try.underlying34 hf
  have hl : ls.length = 5 := hsz
  obtain ⟨u0, u1, u2, u3, u4, rfl⟩ : ∃ u0 u1 u2 u3 u4, ls = [u0, u1, u2, u3, u4] := by
    match ls, hl with
    | [u0, u1, u2, u3, u4], _ => exact ⟨_, _, _, _, _, rfl⟩
  have hx5 : xs.length = 5 := hlen
  have at_ : ∀ (j : Nat) (hj : j < 5), xs[j]? = some (xs[j]'(by omega)) := fun j hj => List.getElem?_eq_getElem (by omega)
  have c3 : Try.prog.cellsOf 3 = 1 := by kernel_rfl
  have c22 : Try.prog.cellsOf 22 = 1 := by kernel_rfl
  have c32 : Try.prog.cellsOf 32 = 1 := by kernel_rfl
  have t0 := (hg 0 _ rfl).trans (at_ 0 (by omega))
  have t1 := (hg 1 _ rfl).trans (at_ 1 (by omega))
  have t2 := (hg 2 _ rfl).trans (at_ 2 (by omega))
  have t3 := (hg 3 _ rfl).trans (at_ 3 (by omega))
  have t4 := (hg 4 _ rfl).trans (at_ 4 (by omega))
  simp only [c3, c22, c32, Value.cells, List.drop_zero, List.drop_succ_cons, List.take_succ_cons, List.take_zero] at t0 t1 t2 t3 t4
  obtain ⟨n, e0, _, _⟩ := DataW.trod_int Try.underlying3 t0
  have sl : ∀ {u : Value} {e f : TypeId} {y : DataW H × List MemPlace}, Try.prog.underlying e = some (.slice f) → DataW.trod enc Try.prog W 0 (fun _ => true) true m e [u] = some y → ∃ a k c, u = .slice a k c := fun hu ht => by
    rcases open_slice hu ht with ⟨hc, _⟩ | ⟨x, l, k, _, _, _, _, hc, _⟩
    · simp only [List.cons.injEq, and_true] at hc
      exact ⟨_, _, _, hc⟩
    · simp only [List.cons.injEq, and_true] at hc
      exact ⟨_, _, _, hc⟩
  obtain ⟨a1, n1, k1, rfl⟩ := sl Try.underlying22 t1
  obtain ⟨a2, n2, k2, rfl⟩ := sl Try.underlying22 t2
  obtain ⟨a3, n3, k3, rfl⟩ := sl Try.underlying32 t3
  obtain ⟨a4, n4, k4, rfl⟩ := sl Try.underlying32 t4
  obtain ⟨x1, rfl, l1, r1⟩ := ints_read t1
  obtain ⟨x2, rfl, l2, r2⟩ := ints_read t2
  obtain ⟨x3, rfl, l3, r3⟩ := bools_read t3
  obtain ⟨x4, rfl, l4, r4⟩ := bools_read t4
  have e0' : u0 = .int .i64 n := by
    have h : [u0] = [Value.int .i64 n] := e0
    simpa using h
  subst e0'
  exact ⟨⟨n, x1, x2, x3, x4⟩, ⟨a1, k1, a2, k2, a3, k3, a4, k4⟩, rfl, ⟨r1, l1, r2, l2, r3, l3, r4, l4⟩⟩
/-- Two numbers, given by value. -/
theorem two_read_ {r : Reach} {b0 : Nat} {v : Value} {d : DataW H} {p : List MemPlace} (hv : Value.okWide Try.prog W r b0 41 v) (h : DataW.Trod enc Try.prog W 0 (fun _ => true) true 41 v d p) :
    ∃ m n : Int, v = .agg #[.int .i64 m, .int .i64 n] := by
  have hv' := hv
  unfold Value.okWide at hv'
  simp only [Try.underlying41] at hv'
  obtain ⟨cs, rfl, hsz, _⟩ := hv'
  rw [cells41] at hsz
  obtain ⟨ls⟩ := cs
  obtain ⟨fuel, hf⟩ := h
  obtain ⟨xs, m, _, _, _, hlen, hg⟩ := DataW.trod_array Try.underlying41 hf
  have hl : ls.length = 2 := hsz
  obtain ⟨u0, u1, rfl⟩ : ∃ u0 u1, ls = [u0, u1] := by
    match ls, hl with
    | [u0, u1], _ => exact ⟨_, _, rfl⟩
  have at_ : ∀ (j : Nat) (hj : j < 2), xs[j]? = some (xs[j]'(by omega)) := fun j hj => List.getElem?_eq_getElem (by omega)
  have c3 : Try.prog.cellsOf 3 = 1 := by kernel_rfl
  have t0 := (hg 0 (by omega)).trans (at_ 0 (by omega))
  have t1 := (hg 1 (by omega)).trans (at_ 1 (by omega))
  simp only [c3, Value.cells, Nat.zero_mul, Nat.one_mul, List.drop_zero, List.drop_succ_cons, List.take_succ_cons, List.take_zero] at t0 t1
  obtain ⟨m, e0, _, _⟩ := DataW.trod_int Try.underlying3 t0
  obtain ⟨n, e1, _, _⟩ := DataW.trod_int Try.underlying3 t1
  simp only [List.cons.injEq, and_true] at e0 e1
  exact ⟨m, n, by rw [e0, e1]⟩
end
set_option maxRecDepth 100000 in
theorem lifted (os : Os) (started : os.Started) (H : Type) (enc : TypeId × Value → H) :
    ReturnsInHanded {} Try.checked os 4 .any (Rows.beltsRawSpec.pre6 enc Try.prog Try.f4 Rows.beltsRawRow.domain false) (Rows.beltsRawSpec.post enc Try.prog Try.f4 false true false false) := by
  refine returnsInHanded_of_change_sized (C := Try.checked) own started (by kernel_rfl) Try.func4
    (ChangeSpec.witness6 (enc := enc) (C := Try.checked) false ⟨#[], #[.slice none 0 0, .agg #[.int .i64 0, .slice none 0 0, .slice none 0 0, .slice none 0 0, .slice none 0 0], .agg #[.int .i64 0, .int .i64 0]], []⟩ 8 (by kernel_rfl) (by kernel_rfl) (by kernel_rfl) (by kernel_rfl)) ?_
  intro W base args ds gs before hval0 hW hcnd hsz0 _
  have hval : ∀ (j : Nat) t v, Try.f4.params[j]? = some t → args[j]? = some v → Value.okWide Try.prog W .any base t v := hval0
  have hW' := hW
  obtain ⟨p, q, hA0, hV, rfl, hfz, hnd⟩ := hW
  have hA : DataW.TrodAll enc Try.prog W 0 (fun _ => true) true Try.f4.params.toList args.toList ds p := hA0
  rw [Try.params4] at hA hval
  obtain ⟨v0, vs0, d0, ds0, p0, q0, hargs, rfl, rfl, h0, r0⟩ := trodAll_cons hA
  obtain ⟨v1, vs1, d1, ds1, p1, q1, rfl, rfl, rfl, h1, r1⟩ := trodAll_cons r0
  obtain ⟨v2, vs2, d2, ds2, p2, q2, rfl, rfl, rfl, h2, r2⟩ := trodAll_cons r1
  obtain ⟨rfl, rfl, rfl⟩ := trodAll_nil r2
  obtain rfl : args = #[v0, v1, v2] := by cases args; simp_all
  obtain ⟨rfl, rfl⟩ := trodVars_none hV
  have k0 := h0
  have k1 := h1
  have k2 := h2
  have lt0 : ∀ x ∈ p0, x.block < W.heap.size := by obtain ⟨m, hm⟩ := k0; exact DataW.trod_lt m _ _ _ hm
  have lt1 : ∀ x ∈ p1, x.block < W.heap.size := by obtain ⟨m, hm⟩ := k1; exact DataW.trod_lt m _ _ _ hm
  have lt2 : ∀ x ∈ p2, x.block < W.heap.size := by obtain ⟨m, hm⟩ := k2; exact DataW.trod_lt m _ _ _ hm
  obtain ⟨A, n, c, rfl⟩ := okWide_slice Try.underlying27 (hval 0 27 v0 rfl rfl)
  obtain ⟨l, rfl, hc, hl⟩ : ∃ l : List S31, l.length = n ∧ n ≤ c ∧ Kd.C k31 W A n l := by
    obtain ⟨fuel, hf⟩ := h0
    exact belts_read hf
  obtain ⟨x, a, rfl, hx⟩ := line_read (hval 1 34 v1 rfl rfl) h1
  obtain ⟨n0, n1, rfl⟩ := two_read_ (hval 2 41 v2 rfl rfl) h2
  clear hA0 hval0 hsz0
  refine (raw_calls l A c x a n0 n1 W hl hc hx).mono fun e W' ⟨he, bel⟩ => ?_
  subst he
  exact ⟨_, rfl, _, _, _, [], _, [], hW', trodAll_mk1 (shut_bool Try.underlying4 _), (trodAll_cons_mk (Below.trod laidOut (by kernel_rfl) (of_decide_eq_true (by kernel_rfl)) k0 bel lt0) (trodAll_cons_mk (Below.trod laidOut (by kernel_rfl) (of_decide_eq_true (by kernel_rfl)) k1 bel lt1) (trodAll_cons_mk (Below.trod laidOut (by kernel_rfl) (of_decide_eq_true (by kernel_rfl)) k2 bel lt2) trodAll_mk0))), rfl, bel.frame _, fun h => by cases h⟩
theorem over : Rows.beltsRawRow.holds Try.pinned (OpenSpec.ofChange Rows.beltsRawSpec) :=
  OpenClaim.holds_of_wide 4 Try.f4 rfl rfl rfl rfl rfl rfl rfl ⟨rfl, rfl, rfl, rfl, rfl⟩ rfl rfl rfl rfl rfl (by kernel_rfl) Try.func4 (by kernel_rfl)
    (of_decide_eq_true (by kernel_rfl)) (by unfold Func.isWrapper; first | (rw [if_pos (by decide +kernel)]; kernel_rfl) | (rw [if_neg (by decide +kernel)]; exact ⟨rfl, rfl⟩))
    (fun os started H enc _ => lifted os started H enc)
theorem proved : Rows.BeltsRawSaid := over
#print axioms proved
end Go.Proofs.Ytejmjeanhlkenaa.beltsRaw
namespace Go.Proofs.Ytejmjeanhlkenaa
/-- The row, under a short name, for the claim. -/
theorem beltsRaw_holds : Rows.BeltsRawSaid := beltsRaw.proved
end Go.Proofs.Ytejmjeanhlkenaa
