/- The record of 32 bytes, walked. -/
import Derived.Test.YtgniegpeeaphlaaHOn
namespace Go.Proofs.Ytgniegpeeaphlaa.HandA
open Go.RowKit Go.Proofs.Ytgniegpeeaphlaa.PR Go.Proofs.YtgniegpeeaphlaaW.PrintWords Go.Proofs.YtgniegpeeaphlaaW.PrintLast Go.Proofs.YtgniegpeeaphlaaW.PrintMore
set_option linter.unusedVariables false
set_option linter.unusedSimpArgs false
/-- What a record's numbers may be. -/
def rvB (k s v t : Int) : Bool := decide (1 ≤ k ∧ k ≤ 5) && decide (0 ≤ s ∧ s ≤ 2147483648) && decide (0 ≤ v ∧ v ≤ if k = 3 then 4 else 2147483648) && decide (0 ≤ t ∧ t ≤ 2147483648)
theorem in_f (a b c : Int) : lists_In.f a b c = some (decide (b ≤ a ∧ a ≤ c)) := by
  unfold lists_In.f
  by_cases h : a ≥ b
  · rw [if_pos h]
    congr 1
    simp only [decide_eq_decide]
    omega
  · rw [if_neg h]
    congr 1
    symm
    rw [decide_eq_false_iff_not]
    omega
theorem valid_f (n : Nat) (k s v t : Int) : controlroom_Valid.f (n + 1) k s v t = some (rvB k s v t) := by
  unfold controlroom_Valid.f rvB
  by_cases h : k = 3
  · rw [if_pos h, if_pos h]
    simp only [controlroom_Valid.j0, in_f, Option.bind_some]
    cases decide (1 ≤ k ∧ k ≤ 5) <;> cases decide (0 ≤ s ∧ s ≤ 2147483648) <;> cases decide (0 ≤ v ∧ v ≤ 4) <;> simp
  · rw [if_neg h, if_neg h]
    simp only [controlroom_Valid.j0, in_f, Option.bind_some]
    cases decide (1 ≤ k ∧ k ≤ 5) <;> cases decide (0 ≤ s ∧ s ≤ 2147483648) <;> cases decide (0 ≤ v ∧ v ≤ 2147483648) <;> simp
theorem total_loop {l : List Int} (hB : Byt l) (hz : l.length ≤ 1000000000) : ∀ (d n : Nat), n + d = l.length → ∀ k, d < k → controlroom_total.l0 k (sumL (l.take n) % 256) l (l.length : Int) (n : Int) = some (sumL l % 256) := by
  intro d
  induction d with
  | zero =>
    intro n hn k hk
    obtain ⟨k, rfl⟩ : ∃ m, k = m + 1 := ⟨k - 1, by omega⟩
    simp only [controlroom_total.l0]
    rw [if_neg (by omega)]
    rw [List.take_of_length_le (by omega)]
  | succ d ih =>
    intro n hn k hk
    obtain ⟨k, rfl⟩ : ∃ m, k = m + 1 := ⟨k - 1, by omega⟩
    simp only [controlroom_total.l0]
    have hw : wrap64 ((n : Int) + 1) = ((n + 1 : Nat) : Int) := by unfold wrap64; omega
    rw [if_pos (by omega), if_pos (by omega), if_pos (by omega), hw]
    have := ih (n + 1) (by omega) k (by omega)
    rw [take_succ_rd (by omega), sumL_snoc] at this
    rw [← this]
    congr 1
    omega
theorem total_f {l : List Int} (hB : Byt l) (hz : l.length ≤ 1000000000) (k : Nat) (hk : l.length < k) : controlroom_total.f k l = some (sumL l % 256) := by
  have := total_loop hB hz l.length 0 (by omega) k hk
  exact this
/-- What one returns. -/
def oneF (l : List Int) : Int × Int × Int × Int × Bool :=
  if rd l 0 = 82 ∧ sumL l % 256 = 90 then
    (capT (num ((l.take 9).drop 1)), capT (num ((l.take 15).drop 9)), capT (num ((l.take 23).drop 15)), capT (num ((l.take 31).drop 23)),
      rvB (capT (num ((l.take 9).drop 1))) (capT (num ((l.take 15).drop 9))) (capT (num ((l.take 23).drop 15))) (capT (num ((l.take 31).drop 23))))
  else (0, 0, 0, 0, false)
/-- The bytes, and the result's variable. -/
structure On (w W : World) (A : Option Addr) (l : List Int) (r0 : Nat) (v : Array Value) : Prop where
  bel : Below w.heap.size w W
  rd0 : Kd.C (Kd.int .u8) w A l.length l
  hb : w.heap.size ≤ r0
  box : W.heap[r0]? = some (.cells v 32 (0, 0))
theorem On.rd {w W : World} {A : Option Addr} {l : List Int} {r0 : Nat} {v : Array Value} (h : On w W A l r0 v) : Kd.C (Kd.int .u8) W A l.length l := Kd.C_below h.rd0 h.bel
theorem On.below {w W W' : World} {A : Option Addr} {l : List Int} {r0 : Nat} {v : Array Value} (h : On w W A l r0 v) (hb : Below W.heap.size W W') : On w W' A l r0 v := ⟨below_step h.bel hb, h.rd0, h.hb, blk_below h.box hb⟩
theorem On.drewN {w W : World} {A : Option Addr} {l : List Int} {r0 : Nat} {v : Array Value} (h : On w W A l r0 v) (n : Nat) : On w (W.drewN n) A l r0 v := h.below (pw_below_drewN (Below.refl _ _) n)
theorem On.drew {w W : World} {A : Option Addr} {l : List Int} {r0 : Nat} {v : Array Value} (h : On w W A l r0 v) : On w W.drew A l r0 v := h.below (below_drew1 (Below.refl _ _))
theorem On.first {w : World} {A : Option Addr} {l : List Int} (hl : Kd.C (Kd.int .u8) w A l.length l) (v : Array Value) : On w (w.alloc (Obj.cells v 32)) A l w.heap.size v := ⟨below_alloc (Below.refl _ _) _, hl, Nat.le_refl _, blk_new w _⟩
theorem set4 {W : World} {B t : Nat} {a0 a1 a2 a3 : Value} (h : W.heap[B]? = some (.cells #[a0, a1, a2, a3] t (0, 0))) (b0 b1 b2 b3 : Value) :
    ((((W.setCell ⟨B, 0, none⟩ b0).setCell ⟨B, 1, none⟩ b1).setCell ⟨B, 2, none⟩ b2).setCell ⟨B, 3, none⟩ b3).heap[B]? = some (.cells #[b0, b1, b2, b3] t (0, 0)) :=
  blk_set (blk_set (blk_set (blk_set h 0 b0) 1 b1) 2 b2) 3 b3
theorem On.put4 {w W : World} {A : Option Addr} {l : List Int} {r0 B : Nat} {v : Array Value} {a0 a1 a2 a3 : Value} (h : On w W A l r0 v) (hB : W.heap[B]? = some (.cells #[a0, a1, a2, a3] 32 (0, 0))) (h0 : w.heap.size ≤ B) (nB : B ≠ r0) (b0 b1 b2 b3 : Value) :
    On w ((((W.setCell ⟨B, 0, none⟩ b0).setCell ⟨B, 1, none⟩ b1).setCell ⟨B, 2, none⟩ b2).setCell ⟨B, 3, none⟩ b3) A l r0 v ∧ ((((W.setCell ⟨B, 0, none⟩ b0).setCell ⟨B, 1, none⟩ b1).setCell ⟨B, 2, none⟩ b2).setCell ⟨B, 3, none⟩ b3).heap[B]? = some (.cells #[b0, b1, b2, b3] 32 (0, 0)) :=
  ⟨⟨below_set (below_set (below_set (below_set h.bel h0) h0) h0) h0, h.rd0, h.hb, blk_far (blk_far (blk_far (blk_far h.box (Ne.symm nB) _) (Ne.symm nB) _) (Ne.symm nB) _) (Ne.symm nB) _⟩, set4 hB _ _ _ _⟩
theorem box4 {V : World} {b t : Nat} {v0 v1 v2 v3 : Value} (h : V.heap[b]? = some (.cells #[v0, v1, v2, v3] t (0, 0))) : V.cell? ⟨b, 0, none⟩ = some v0 ∧ V.frozen? ⟨b, 0, none⟩ = false ∧ V.cell? ⟨b, 1, none⟩ = some v1 ∧ V.frozen? ⟨b, 1, none⟩ = false ∧ V.cell? ⟨b, 2, none⟩ = some v2 ∧ V.frozen? ⟨b, 2, none⟩ = false ∧ V.cell? ⟨b, 3, none⟩ = some v3 ∧ V.frozen? ⟨b, 3, none⟩ = false :=
  ⟨(blk_cell h 0).trans rfl, blk_frozen h 0, (blk_cell h 1).trans rfl, blk_frozen h 1, (blk_cell h 2).trans rfl, blk_frozen h 2, (blk_cell h 3).trans rfl, blk_frozen h 3⟩
theorem cut_field {ad : Addr} {c : Nat} {l : List Int} (lo hi : Nat) (h0 : 0 < lo) (h1 : lo ≤ hi) (h2 : hi ≤ l.length) (hc : l.length ≤ c) : ∃ A1, (if c = lo then some ad else some { block := ad.block, off := ad.off + lo }) = A1 ∧ ((l.take hi).drop lo).length ≤ c - lo ∧ (∀ W, Kd.C (Kd.int .u8) W (some ad) l.length l → Kd.C (Kd.int .u8) W A1 ((l.take hi).drop lo).length ((l.take hi).drop lo)) := by
  refine ⟨_, rfl, by rw [List.length_drop, List.length_take]; omega, fun W h => ?_⟩
  have := Kd.C_mid h h1 h2 hc
  have e : (some ad : Option Addr).map (·.add (lo * (Kd.int .u8).sz)) = some { block := ad.block, off := ad.off + lo } := by
    show some (ad.add (lo * 1)) = _
    unfold Addr.add
    rw [Nat.mul_one, if_neg (by omega)]
  rw [e] at this
  exact this
theorem field_at (A : Option Addr) (c : Nat) (l : List Int) (n : Nat) (w : World) (hl : Kd.C (Kd.int .u8) w A l.length l) (hc : l.length ≤ c) (hB : Byt l) (h8 : n ≤ 8) (e : l.length = n) :
    Calls Try.prog 63 #[.slice A n c] w fun e w' => e = .returned (.int .i64 (capT (num l))) ∧ w = w' := by
  subst e
  exact field_calls A c l w hl hc hB h8
section
variable {P : Program} {ops : Array Oper} {o : Oper} {a : Act} {Q : Exit → Act → World → Prop} {Kc : Act → World → Prop}
/-- A call of a function value that holds nothing. -/
theorem goesF_ {oi : Oper} {N : Option Tmp} {w : World} {f : FuncId} {fn : Func} {fv : Operand} {ars : Array Operand} {ts : Array TypeId} (hf : P.funcs[f]? = some fn) (hname : (fn.name == "runtime.NumGoroutine") = false) (hb : fn.body.isSome = true) (args : Array Value)
    (hw : Region.wanted oi (yielded ops a.tmps) = true) (hN : oi.dst = N) (hop : oi.op = .call { callee := .value fv, args := ars, argTypes := ts }) (hv : a.eval fv = .func (.func f) #[] #[]) (hargs : ars.map a.eval = args)
    (h : Calls P f args w fun e w' => ∃ v, e = .returned v ∧ Kc (a.put N v) w') : if Region.wanted oi (yielded ops a.tmps) = true then Oper.wp P oi a w Kc Q else Kc (a.put N undef) w := by
  refine call_ f args hw hN ?_ h
  have he := enters_ hf hname hb args w
  unfold execOp
  simp [hop, hv, resolve, Deferred.ofValue, invoke, hargs, he]
theorem alloc_step {W : World} {cs : Array Value} {t : TypeId} (hw : Region.wanted o (yielded ops a.tmps) = true)
    (hrun : (execOp a.eval o).run P W = .ok (.value (.pointer (some ⟨W.heap.size, 0, none⟩))) (W.alloc (.cells cs t (0, 0))))
    (h : ∀ g, g = W.heap.size → ∀ w1, w1.heap[g]? = some (.cells cs t (0, 0)) → Below W.heap.size W w1 → Kc (a.put o.dst (.pointer (some ⟨g, 0, none⟩))) w1) : if Region.wanted o (yielded ops a.tmps) = true then Oper.wp P o a W Kc Q else Kc (a.put o.dst undef) W :=
  event_step hw hrun (h _ rfl _ (blk_new W _) (below_alloc (Below.refl _ _) _))
end
set_option maxHeartbeats 8000000 in
set_option maxRecDepth 100000 in
theorem one_calls (A : Option Addr) (c : Nat) (l : List Int) (w : World) (hl : Kd.C (Kd.int .u8) w A l.length l) (hc : l.length ≤ c) (hB : Byt l) (h32 : l.length = 32) (r : Int × Int × Int × Int × Bool) (hr : oneF l = r) :
    Calls Try.prog 37 #[.slice A l.length c] w fun e w' => e = .returned (.tuple #[.agg #[.int .i64 r.1, .int .i64 r.2.1, .int .i64 r.2.2.1, .int .i64 r.2.2.2.1], .bool r.2.2.2.2]) ∧ Below w.heap.size w w' := by
  have HB := Aside0.mk hB
  have HR := Aside0.mk hr
  have hu32 := Try.underlying32
  have i0 : (0 : Int) < l.length := by omega
  obtain ⟨ad, e, -⟩ := Kd.at_int hl 0 (by omega) (by omega)
  cases e
  have S0 := Aside0.mk (On.first hl #[Value.int IntKind.i64 0, Value.int IntKind.i64 0, Value.int IntKind.i64 0, Value.int IntKind.i64 0])
  have H32 := Aside0.mk h32
  have LT := Aside0.mk (total_f hB (by omega) 40 (by omega))
  clear hl hB hr h32
  go_enter Try.func37, Try.ntmps37
  go_upto_region 1 with fail
  generalize w.alloc (Obj.cells #[Value.int IntKind.i64 0, Value.int IntKind.i64 0, Value.int IntKind.i64 0, Value.int IntKind.i64 0] 32) = W0 at S0 ⊢
  generalize w.heap.size = r0 at S0 ⊢
  obtain ⟨ad', e, d⟩ := Kd.at_int S0.out.rd 0 (by omega) (by omega)
  cases e
  have d0 : W0.cell? ad = some (.int .u8 (rd l 0)) := by
    have : ad.add 0 = ad := by simp [Addr.add]
    rw [← this]
    exact d
  clear d
  by_cases h0 : rd l 0 = 82
  · have hb0 : (rd l 0 != 82) = false := by simp [h0]
    by_cases hs : sumL l % 256 = 90
    · have hb1 : (sumL l % 256 != 90) = false := by simp [hs]
      have H0 := Aside0.mk h0
      have HS := Aside0.mk hs
      clear h0 hs
      go_upto_region 4 with (go_at_call 36; (with_reducible refine (controlroom_total.calls 40 _ c l _ _ S0.out.rd hc LT.out).mono ?_); rintro e w1 ⟨rfl, hd⟩; obtain ⟨n1, rfl⟩ := hd.out)
      have hr9 := HR.out
      unfold oneF at hr9
      rw [if_pos ⟨H0.out, HS.out⟩] at hr9
      clear HR
      have K31 := H32.out
      have c9 : (9 : Int) ≤ c := by omega
      have c15 : (15 : Int) ≤ c := by omega
      have c23 : (23 : Int) ≤ c := by omega
      have c31 : (31 : Int) ≤ c := by omega
      obtain ⟨A0, hA0, le0, rd0⟩ := cut_field (ad := ad) (c := c) (l := l) 1 9 (by omega) (by omega) (by omega) hc
      have N0 := Aside0.mk (show ((l.take 9).drop 1).length = 8 by rw [List.length_drop, List.length_take]; omega)
      obtain ⟨l0, hl0⟩ : ∃ x, (l.take 9).drop 1 = x := ⟨_, rfl⟩
      have B0 := Aside0.mk ((HB.out.take 9).drop 1)
      rw [hl0] at le0 rd0 B0 N0 hr9
      clear hl0; have RD0 := Aside0.mk rd0; have LE0 := Aside0.mk le0; clear rd0 le0
      obtain ⟨A1, hA1, le1, rd1⟩ := cut_field (ad := ad) (c := c) (l := l) 9 15 (by omega) (by omega) (by omega) hc
      have N1 := Aside0.mk (show ((l.take 15).drop 9).length = 6 by rw [List.length_drop, List.length_take]; omega)
      obtain ⟨l1, hl1⟩ : ∃ x, (l.take 15).drop 9 = x := ⟨_, rfl⟩
      have B1 := Aside0.mk ((HB.out.take 15).drop 9)
      rw [hl1] at le1 rd1 B1 N1 hr9
      clear hl1; have RD1 := Aside0.mk rd1; have LE1 := Aside0.mk le1; clear rd1 le1
      obtain ⟨A2, hA2, le2, rd2⟩ := cut_field (ad := ad) (c := c) (l := l) 15 23 (by omega) (by omega) (by omega) hc
      have N2 := Aside0.mk (show ((l.take 23).drop 15).length = 8 by rw [List.length_drop, List.length_take]; omega)
      obtain ⟨l2, hl2⟩ : ∃ x, (l.take 23).drop 15 = x := ⟨_, rfl⟩
      have B2 := Aside0.mk ((HB.out.take 23).drop 15)
      rw [hl2] at le2 rd2 B2 N2 hr9
      clear hl2; have RD2 := Aside0.mk rd2; have LE2 := Aside0.mk le2; clear rd2 le2
      obtain ⟨A3, hA3, le3, rd3⟩ := cut_field (ad := ad) (c := c) (l := l) 23 31 (by omega) (by omega) (by omega) hc
      have N3 := Aside0.mk (show ((l.take 31).drop 23).length = 8 by rw [List.length_drop, List.length_take]; omega)
      obtain ⟨l3, hl3⟩ : ∃ x, (l.take 31).drop 23 = x := ⟨_, rfl⟩
      have B3 := Aside0.mk ((HB.out.take 31).drop 23)
      rw [hl3] at le3 rd3 B3 N3 hr9
      clear hl3; have RD3 := Aside0.mk rd3; have LE3 := Aside0.mk le3; clear rd3 le3
      clear K31
      have HR := Aside0.mk hr9; clear hr9
      have M0 := (S0.out.drewN n1).drew
      refine start_ (n := 19) (S := (fun _ => True)) (ds := [18]) #[false, false, false, false, false, false, false, false, false, false, false, false, false, false, false, false, false, false, false] (by kernel_rfl) rfl rfl trivial (fun hHeld => ?_)
      refine pure_ (i := 0) (N := some 16) (v := ?_) (a' := ?_) #[true, false, false, false, false, false, false, false, false, false, false, false, false, false, false, false, false, false, false] rfl rfl (by kernel_rfl) (fun _ _ _ h => h) (Or.inl ⟨by rfl, ?_⟩) ?_ ?_
      rotate_left; · intro w'; go_simp; with_reducible rfl
      rotate_left; · simp only [Act.put, List.setIfInBounds_toArray, List.set_cons_zero, List.set_cons_succ, i64_w, i32_w]; rfl
      refine pure_ (i := 1) (N := some 17) (v := ?_) (a' := ?_) #[true, true, false, false, false, false, false, false, false, false, false, false, false, false, false, false, false, false, false] rfl rfl (by kernel_rfl) (fun _ _ _ h => h) (Or.inl ⟨by rfl, ?_⟩) ?_ ?_
      rotate_left; · intro w'; go_simp; with_reducible rfl
      rotate_left; · simp only [Act.put, List.setIfInBounds_toArray, List.set_cons_zero, List.set_cons_succ, i64_w, i32_w]; rfl
      refine pure_ (i := 2) (N := some 18) (v := ?_) (a' := ?_) #[true, true, true, false, false, false, false, false, false, false, false, false, false, false, false, false, false, false, false] rfl rfl (by kernel_rfl) (fun _ _ _ h => h) (Or.inl ⟨by rfl, ?_⟩) ?_ ?_
      rotate_left; · intro w'; go_simp; with_reducible rfl
      rotate_left; · simp only [Act.put, List.setIfInBounds_toArray, List.set_cons_zero, List.set_cons_succ, i64_w, i32_w]; rfl
      refine pure_ (i := 4) (N := some 20) (v := ?_) (a' := ?_) #[true, true, true, false, true, false, false, false, false, false, false, false, false, false, false, false, false, false, false] rfl rfl (by kernel_rfl) (fun _ _ _ h => h) (Or.inl ⟨by rfl, ?_⟩) ?_ ?_
      rotate_left; · intro w'; go_simp; with_reducible rfl
      rotate_left; · simp only [Act.put, List.setIfInBounds_toArray, List.set_cons_zero, List.set_cons_succ, i64_w, i32_w]; rfl
      refine pure_ (i := 5) (N := some 21) (v := ?_) (a' := ?_) #[true, true, true, false, true, true, false, false, false, false, false, false, false, false, false, false, false, false, false] rfl rfl (by kernel_rfl) (fun _ _ _ h => h) (Or.inl ⟨by rfl, ?_⟩) ?_ ?_
      rotate_left; · intro w'; go_simp; with_reducible rfl
      rotate_left; · simp only [Act.put, List.setIfInBounds_toArray, List.set_cons_zero, List.set_cons_succ, i64_w, i32_w]; rfl
      refine pure_ (i := 6) (N := some 22) (v := ?_) (a' := ?_) #[true, true, true, false, true, true, true, false, false, false, false, false, false, false, false, false, false, false, false] rfl rfl (by kernel_rfl) (fun _ _ _ h => h) (Or.inl ⟨by rfl, ?_⟩) ?_ ?_
      rotate_left; · intro w'; go_simp; with_reducible rfl
      rotate_left; · simp only [Act.put, List.setIfInBounds_toArray, List.set_cons_zero, List.set_cons_succ, i64_w, i32_w]; rfl
      refine pure_ (i := 8) (N := some 24) (v := ?_) (a' := ?_) #[true, true, true, false, true, true, true, false, true, false, false, false, false, false, false, false, false, false, false] rfl rfl (by kernel_rfl) (fun _ _ _ h => h) (Or.inl ⟨by rfl, ?_⟩) ?_ ?_
      rotate_left; · intro w'; go_simp; with_reducible rfl
      rotate_left; · simp only [Act.put, List.setIfInBounds_toArray, List.set_cons_zero, List.set_cons_succ, i64_w, i32_w]; rfl
      refine pure_ (i := 9) (N := some 25) (v := ?_) (a' := ?_) #[true, true, true, false, true, true, true, false, true, true, false, false, false, false, false, false, false, false, false] rfl rfl (by kernel_rfl) (fun _ _ _ h => h) (Or.inl ⟨by rfl, ?_⟩) ?_ ?_
      rotate_left; · intro w'; go_simp; with_reducible rfl
      rotate_left; · simp only [Act.put, List.setIfInBounds_toArray, List.set_cons_zero, List.set_cons_succ, i64_w, i32_w]; rfl
      refine pure_ (i := 10) (N := some 26) (v := ?_) (a' := ?_) #[true, true, true, false, true, true, true, false, true, true, true, false, false, false, false, false, false, false, false] rfl rfl (by kernel_rfl) (fun _ _ _ h => h) (Or.inl ⟨by rfl, ?_⟩) ?_ ?_
      rotate_left; · intro w'; go_simp; with_reducible rfl
      rotate_left; · simp only [Act.put, List.setIfInBounds_toArray, List.set_cons_zero, List.set_cons_succ, i64_w, i32_w]; rfl
      refine pure_ (i := 12) (N := some 28) (v := ?_) (a' := ?_) #[true, true, true, false, true, true, true, false, true, true, true, false, true, false, false, false, false, false, false] rfl rfl (by kernel_rfl) (fun _ _ _ h => h) (Or.inl ⟨by rfl, ?_⟩) ?_ ?_
      rotate_left; · intro w'; go_simp; with_reducible rfl
      rotate_left; · simp only [Act.put, List.setIfInBounds_toArray, List.set_cons_zero, List.set_cons_succ, i64_w, i32_w]; rfl
      refine pure_ (i := 13) (N := some 29) (v := ?_) (a' := ?_) #[true, true, true, false, true, true, true, false, true, true, true, false, true, true, false, false, false, false, false] rfl rfl (by kernel_rfl) (fun _ _ _ h => h) (Or.inl ⟨by rfl, ?_⟩) ?_ ?_
      rotate_left; · intro w'; go_simp; with_reducible rfl
      rotate_left; · simp only [Act.put, List.setIfInBounds_toArray, List.set_cons_zero, List.set_cons_succ, i64_w, i32_w]; rfl
      refine pure_ (i := 14) (N := some 30) (v := ?_) (a' := ?_) #[true, true, true, false, true, true, true, false, true, true, true, false, true, true, true, false, false, false, false] rfl rfl (by kernel_rfl) (fun _ _ _ h => h) (Or.inl ⟨by rfl, ?_⟩) ?_ ?_
      rotate_left; · intro w'; go_simp; with_reducible rfl
      rotate_left; · simp only [Act.put, List.setIfInBounds_toArray, List.set_cons_zero, List.set_cons_succ, i64_w, i32_w]; rfl
      clear hHeld
      refine join_ (σ := Nat) 1 #[true, true, true, true, true, true, true, true, true, true, true, true, true, true, true, true, true, true, false] (fun B => [(19, .int .i64 (capT (num l0))), (23, .int .i64 (capT (num l1))), (27, .int .i64 (capT (num l2))), (31, .int .i64 (capT (num l3))), (32, .agg #[.int .i64 (capT (num l0)), .int .i64 (capT (num l1)), .int .i64 (capT (num l2)), .int .i64 (capT (num l3))]), (5, .pointer (some ⟨B, 0, none⟩))]) (fun B w' => On w w' (some ad) l r0 #[Value.int IntKind.i64 0, Value.int IntKind.i64 0, Value.int IntKind.i64 0, Value.int IntKind.i64 0] ∧ w'.heap[B]? = some (Obj.cells #[Value.int IntKind.i64 0, Value.int IntKind.i64 0, Value.int IntKind.i64 0, Value.int IntKind.i64 0] 32 (0, 0)) ∧ w.heap.size ≤ B ∧ B ≠ r0) ?_ ?_
      · rintro B W6 ⟨M6, hB, h0, nB⟩
        simp only [putAll, Act.put, List.setIfInBounds_toArray, List.set_cons_zero, List.set_cons_succ]
        refine last_ (i := 18) (N := none) #[true, true, true, true, true, true, true, true, true, true, true, true, true, true, true, true, true, true, true] rfl rfl (by kernel_rfl) (by decide) (fun K hK => ?_)
        obtain ⟨o0, u0, o1, u1, o2, u2, o3, u3⟩ := box4 hB
        refine skip_ (w1 := ?_) (by rfl) rfl ?_ ?_
        rotate_left
        · go_simp; rfl
        refine hK.out _ _ ?_
        clear hK K
        refine done_ (by kernel_rfl) ?_
        have M7 := M6.put4 hB h0 nB (.int .i64 (capT (num l0))) (.int .i64 (capT (num l1))) (.int .i64 (capT (num l2))) (.int .i64 (capT (num l3)))
        generalize ((((W6.setCell ⟨B, 0, none⟩ (.int .i64 (capT (num l0)))).setCell ⟨B, 1, none⟩ (.int .i64 (capT (num l1)))).setCell ⟨B, 2, none⟩ (.int .i64 (capT (num l2)))).setCell ⟨B, 3, none⟩ (.int .i64 (capT (num l3)))) = W7 at M7 ⊢
        obtain ⟨M7, hB7⟩ := M7
        go_upto_region 5 with fail
        have M8 := M7.drew
        have hB8 := blk_drew hB7
        refine start_ (n := 5) (S := (fun w' => w'.cell? ⟨B, 0, none⟩ = some (Value.int IntKind.i64 (capT (num l0))) ∧ w'.cell? ⟨B, 1, none⟩ = some (Value.int IntKind.i64 (capT (num l1))) ∧ w'.cell? ⟨B, 2, none⟩ = some (Value.int IntKind.i64 (capT (num l2))) ∧ w'.cell? ⟨B, 3, none⟩ = some (Value.int IntKind.i64 (capT (num l3))))) (ds := [3]) #[false, false, false, false, false] (by kernel_rfl) rfl rfl ⟨(blk_cell hB8 0).trans rfl, (blk_cell hB8 1).trans rfl, (blk_cell hB8 2).trans rfl, (blk_cell hB8 3).trans rfl⟩ (fun hHeld => ?_)
        refine take_ (i := 0) (N := some 33) (v := ?_) (a' := ?_) #[true, false, false, false, false] rfl rfl (by kernel_rfl) (fun _ _ _ h => h) (Or.inl ⟨by rfl, ?_⟩) hHeld ?_ ?_
        rotate_left; · rintro w' ⟨s0, s1, s2, s3⟩; go_simp; with_reducible rfl
        rotate_left; · simp only [Act.put, List.setIfInBounds_toArray, List.set_cons_zero, List.set_cons_succ, i64_w, i32_w]; rfl
        refine take_ (i := 1) (N := some 34) (v := ?_) (a' := ?_) #[true, true, false, false, false] rfl rfl (by kernel_rfl) (fun _ _ _ h => h) (Or.inl ⟨by rfl, ?_⟩) hHeld ?_ ?_
        rotate_left; · rintro w' ⟨s0, s1, s2, s3⟩; go_simp; with_reducible rfl
        rotate_left; · simp only [Act.put, List.setIfInBounds_toArray, List.set_cons_zero, List.set_cons_succ, i64_w, i32_w]; rfl
        clear hHeld
        refine one_ (i := 2) (N := some 35) #[true, true, true, false, false] rfl rfl (by kernel_rfl) (by decide) (fun K hK => ?_)
        refine goes_ Try.func30 (by kernel_rfl) rfl #[.agg #[.int .i64 (capT (num l0)), .int .i64 (capT (num l1)), .int .i64 (capT (num l2)), .int .i64 (capT (num l3))]] (by rfl) rfl rfl (by simp only [List.map_toArray, List.map_cons, List.map_nil]; rfl) ?_
        refine (controlroom_Valid.calls 1 _ _ _ _ _ _ (valid_f 0 _ _ _ _)).mono ?_
        rintro e W9 ⟨rfl, hb⟩
        refine ⟨_, rfl, ?_⟩
        have M9 := M8.below hb
        have hB9 := blk_below hB8 hb
        clear hb
        refine hK.out _ _ ⟨(blk_cell hB9 0).trans rfl, (blk_cell hB9 1).trans rfl, (blk_cell hB9 2).trans rfl, (blk_cell hB9 3).trans rfl⟩ (fun hHeld => ?_)
        clear hK K hHeld
        refine norm_ (a' := ?_) ?_ ?_
        rotate_left
        · show Act.put _ (some 35) _ = _; simp only [Act.put, List.setIfInBounds_toArray, List.set_cons_zero, List.set_cons_succ, i64_w, i32_w]; rfl
        refine last_ (i := 3) (N := none) #[true, true, true, true, false] rfl rfl (by kernel_rfl) (by decide) (fun K hK => ?_)
        obtain ⟨o0, u0, o1, u1, o2, u2, o3, u3⟩ := box4 M9.box
        refine skip_ (w1 := ?_) (by rfl) rfl ?_ ?_
        rotate_left
        · go_simp; rfl
        refine hK.out _ _ ?_
        clear hK K
        refine pure_ (i := 4) (N := some 3) (v := ?_) (a' := ?_) #[true, true, true, true, true] rfl rfl (by kernel_rfl) (fun _ _ _ h => h) (Or.inl ⟨by rfl, ?_⟩) ?_ ?_
        rotate_left; · intro w'; go_simp; with_reducible rfl
        rotate_left; · simp only [Act.put, List.setIfInBounds_toArray, List.set_cons_zero, List.set_cons_succ, i64_w, i32_w]; rfl
        refine done_ (by kernel_rfl) ?_
        go_wp2_with fail
        have hbx := set4 M9.box (.int .i64 (capT (num l0))) (.int .i64 (capT (num l1))) (.int .i64 (capT (num l2))) (.int .i64 (capT (num l3)))
        refine bodyPost_ret (results_ct rfl _ _ r0 32 _ (0, 0) _ rfl hbx hu32 rfl (by kernel_rfl)) rfl ?_
        exact ⟨by rw [← HR.out]; rfl, below_set (below_set (below_set (below_set M9.bel M9.hb) M9.hb) M9.hb) M9.hb⟩
      intro J9
      refine two_ (i := 3) (j := 17) (Ni := some 19) (Nj := some 5) #[true, true, true, true, true, true, true, false, true, true, true, false, true, true, true, false, false, false, false] #[true, true, true, false, true, true, true, false, true, true, true, false, true, true, true, false, false, true, false] rfl rfl rfl rfl (by kernel_rfl) (by decide) (by decide) (fun K hK => ?_) (fun K hK => ?_)
      rotate_left
      · refine (alloc_step (cs := #[Value.int IntKind.i64 0, Value.int IntKind.i64 0, Value.int IntKind.i64 0, Value.int IntKind.i64 0]) (t := 32) (by rfl) (by first | (go_simp; done) | (go_simp; rfl)) ?_)
        intro B eB W2 hB hb
        have M1 := M0.below hb
        have nB : B ≠ r0 := by have := blk_lt M0.box; omega
        have hB0 : w.heap.size ≤ B := by have := M0.bel.size; omega
        clear eB hb
        refine hK.out _ _ trivial (fun hHeld => ?_)
        clear hK K hHeld
        refine norm_ (a' := ?_) ?_ ?_
        rotate_left
        · show Act.put _ (some 5) _ = _; simp only [Act.put, List.setIfInBounds_toArray, List.set_cons_zero, List.set_cons_succ, i64_w, i32_w]; rfl
        refine one_ (i := 3) (N := some 19) #[true, true, true, true, true, true, true, false, true, true, true, false, true, true, true, false, false, true, false] rfl rfl (by kernel_rfl) (by decide) (fun K hK => ?_)
        refine goesF_ Try.func63 (by kernel_rfl) rfl #[.slice A0 8 (c - 1)] (by rfl) rfl rfl rfl (by simp only [List.map_toArray, List.map_cons, List.map_nil]; rfl) ?_
        refine (field_at A0 (c - 1) l0 8 _ (RD0.out _ M1.rd) LE0.out B0.out (by decide) N0.out).mono ?_
        rintro e W ⟨rfl, rfl⟩
        refine ⟨_, rfl, ?_⟩
        refine hK.out _ _ trivial (fun hHeld => ?_)
        clear hK K hHeld
        refine norm_ (a' := ?_) ?_ ?_
        rotate_left
        · show Act.put _ (some 19) _ = _; simp only [Act.put, List.setIfInBounds_toArray, List.set_cons_zero, List.set_cons_succ, i64_w, i32_w]; rfl
        refine one_ (i := 7) (N := some 23) #[true, true, true, true, true, true, true, true, true, true, true, false, true, true, true, false, false, true, false] rfl rfl (by kernel_rfl) (by decide) (fun K hK => ?_)
        refine goesF_ Try.func63 (by kernel_rfl) rfl #[.slice A1 6 (c - 9)] (by rfl) rfl rfl rfl (by simp only [List.map_toArray, List.map_cons, List.map_nil]; rfl) ?_
        refine (field_at A1 (c - 9) l1 6 _ (RD1.out _ M1.rd) LE1.out B1.out (by decide) N1.out).mono ?_
        rintro e W ⟨rfl, rfl⟩
        refine ⟨_, rfl, ?_⟩
        refine hK.out _ _ trivial (fun hHeld => ?_)
        clear hK K hHeld
        refine norm_ (a' := ?_) ?_ ?_
        rotate_left
        · show Act.put _ (some 23) _ = _; simp only [Act.put, List.setIfInBounds_toArray, List.set_cons_zero, List.set_cons_succ, i64_w, i32_w]; rfl
        refine one_ (i := 11) (N := some 27) #[true, true, true, true, true, true, true, true, true, true, true, true, true, true, true, false, false, true, false] rfl rfl (by kernel_rfl) (by decide) (fun K hK => ?_)
        refine goesF_ Try.func63 (by kernel_rfl) rfl #[.slice A2 8 (c - 15)] (by rfl) rfl rfl rfl (by simp only [List.map_toArray, List.map_cons, List.map_nil]; rfl) ?_
        refine (field_at A2 (c - 15) l2 8 _ (RD2.out _ M1.rd) LE2.out B2.out (by decide) N2.out).mono ?_
        rintro e W ⟨rfl, rfl⟩
        refine ⟨_, rfl, ?_⟩
        refine hK.out _ _ trivial (fun hHeld => ?_)
        clear hK K hHeld
        refine norm_ (a' := ?_) ?_ ?_
        rotate_left
        · show Act.put _ (some 27) _ = _; simp only [Act.put, List.setIfInBounds_toArray, List.set_cons_zero, List.set_cons_succ, i64_w, i32_w]; rfl
        refine one_ (i := 15) (N := some 31) #[true, true, true, true, true, true, true, true, true, true, true, true, true, true, true, true, false, true, false] rfl rfl (by kernel_rfl) (by decide) (fun K hK => ?_)
        refine goesF_ Try.func63 (by kernel_rfl) rfl #[.slice A3 8 (c - 23)] (by rfl) rfl rfl rfl (by simp only [List.map_toArray, List.map_cons, List.map_nil]; rfl) ?_
        refine (field_at A3 (c - 23) l3 8 _ (RD3.out _ M1.rd) LE3.out B3.out (by decide) N3.out).mono ?_
        rintro e W ⟨rfl, rfl⟩
        refine ⟨_, rfl, ?_⟩
        refine hK.out _ _ trivial (fun hHeld => ?_)
        clear hK K hHeld
        refine norm_ (a' := ?_) ?_ ?_
        rotate_left
        · show Act.put _ (some 31) _ = _; simp only [Act.put, List.setIfInBounds_toArray, List.set_cons_zero, List.set_cons_succ, i64_w, i32_w]; rfl
        refine pure_ (i := 16) (N := some 32) (v := ?_) (a' := ?_) #[true, true, true, true, true, true, true, true, true, true, true, true, true, true, true, true, true, true, false] rfl rfl (by kernel_rfl) (fun _ _ _ h => h) (Or.inl ⟨by rfl, ?_⟩) ?_ ?_
        rotate_left; · intro w'; go_simp; with_reducible rfl
        rotate_left; · simp only [Act.put, List.setIfInBounds_toArray, List.set_cons_zero, List.set_cons_succ, i64_w, i32_w]; rfl
        exact norm_ (by first | (simp only [putAll, Act.put, List.setIfInBounds_toArray, List.set_cons_zero, List.set_cons_succ]; done) | (simp only [putAll, Act.put, List.setIfInBounds_toArray, List.set_cons_zero, List.set_cons_succ]; rfl)) (J9 B _ ⟨M1, hB, hB0, nB⟩)
      refine goesF_ Try.func63 (by kernel_rfl) rfl #[.slice A0 8 (c - 1)] (by rfl) rfl rfl rfl (by simp only [List.map_toArray, List.map_cons, List.map_nil]; rfl) ?_
      refine (field_at A0 (c - 1) l0 8 _ (RD0.out _ M0.rd) LE0.out B0.out (by decide) N0.out).mono ?_
      rintro e W ⟨rfl, rfl⟩
      refine ⟨_, rfl, ?_⟩
      refine hK.out _ _ trivial (fun hHeld => ?_)
      clear hK K hHeld
      refine norm_ (a' := ?_) ?_ ?_
      rotate_left
      · show Act.put _ (some 19) _ = _; simp only [Act.put, List.setIfInBounds_toArray, List.set_cons_zero, List.set_cons_succ, i64_w, i32_w]; rfl
      refine two_ (i := 7) (j := 17) (Ni := some 23) (Nj := some 5) #[true, true, true, true, true, true, true, true, true, true, true, false, true, true, true, false, false, false, false] #[true, true, true, true, true, true, true, false, true, true, true, false, true, true, true, false, false, true, false] rfl rfl rfl rfl (by kernel_rfl) (by decide) (by decide) (fun K hK => ?_) (fun K hK => ?_)
      rotate_left
      · refine (alloc_step (cs := #[Value.int IntKind.i64 0, Value.int IntKind.i64 0, Value.int IntKind.i64 0, Value.int IntKind.i64 0]) (t := 32) (by rfl) (by first | (go_simp; done) | (go_simp; rfl)) ?_)
        intro B eB W2 hB hb
        have M1 := M0.below hb
        have nB : B ≠ r0 := by have := blk_lt M0.box; omega
        have hB0 : w.heap.size ≤ B := by have := M0.bel.size; omega
        clear eB hb
        refine hK.out _ _ trivial (fun hHeld => ?_)
        clear hK K hHeld
        refine norm_ (a' := ?_) ?_ ?_
        rotate_left
        · show Act.put _ (some 5) _ = _; simp only [Act.put, List.setIfInBounds_toArray, List.set_cons_zero, List.set_cons_succ, i64_w, i32_w]; rfl
        refine one_ (i := 7) (N := some 23) #[true, true, true, true, true, true, true, true, true, true, true, false, true, true, true, false, false, true, false] rfl rfl (by kernel_rfl) (by decide) (fun K hK => ?_)
        refine goesF_ Try.func63 (by kernel_rfl) rfl #[.slice A1 6 (c - 9)] (by rfl) rfl rfl rfl (by simp only [List.map_toArray, List.map_cons, List.map_nil]; rfl) ?_
        refine (field_at A1 (c - 9) l1 6 _ (RD1.out _ M1.rd) LE1.out B1.out (by decide) N1.out).mono ?_
        rintro e W ⟨rfl, rfl⟩
        refine ⟨_, rfl, ?_⟩
        refine hK.out _ _ trivial (fun hHeld => ?_)
        clear hK K hHeld
        refine norm_ (a' := ?_) ?_ ?_
        rotate_left
        · show Act.put _ (some 23) _ = _; simp only [Act.put, List.setIfInBounds_toArray, List.set_cons_zero, List.set_cons_succ, i64_w, i32_w]; rfl
        refine one_ (i := 11) (N := some 27) #[true, true, true, true, true, true, true, true, true, true, true, true, true, true, true, false, false, true, false] rfl rfl (by kernel_rfl) (by decide) (fun K hK => ?_)
        refine goesF_ Try.func63 (by kernel_rfl) rfl #[.slice A2 8 (c - 15)] (by rfl) rfl rfl rfl (by simp only [List.map_toArray, List.map_cons, List.map_nil]; rfl) ?_
        refine (field_at A2 (c - 15) l2 8 _ (RD2.out _ M1.rd) LE2.out B2.out (by decide) N2.out).mono ?_
        rintro e W ⟨rfl, rfl⟩
        refine ⟨_, rfl, ?_⟩
        refine hK.out _ _ trivial (fun hHeld => ?_)
        clear hK K hHeld
        refine norm_ (a' := ?_) ?_ ?_
        rotate_left
        · show Act.put _ (some 27) _ = _; simp only [Act.put, List.setIfInBounds_toArray, List.set_cons_zero, List.set_cons_succ, i64_w, i32_w]; rfl
        refine one_ (i := 15) (N := some 31) #[true, true, true, true, true, true, true, true, true, true, true, true, true, true, true, true, false, true, false] rfl rfl (by kernel_rfl) (by decide) (fun K hK => ?_)
        refine goesF_ Try.func63 (by kernel_rfl) rfl #[.slice A3 8 (c - 23)] (by rfl) rfl rfl rfl (by simp only [List.map_toArray, List.map_cons, List.map_nil]; rfl) ?_
        refine (field_at A3 (c - 23) l3 8 _ (RD3.out _ M1.rd) LE3.out B3.out (by decide) N3.out).mono ?_
        rintro e W ⟨rfl, rfl⟩
        refine ⟨_, rfl, ?_⟩
        refine hK.out _ _ trivial (fun hHeld => ?_)
        clear hK K hHeld
        refine norm_ (a' := ?_) ?_ ?_
        rotate_left
        · show Act.put _ (some 31) _ = _; simp only [Act.put, List.setIfInBounds_toArray, List.set_cons_zero, List.set_cons_succ, i64_w, i32_w]; rfl
        refine pure_ (i := 16) (N := some 32) (v := ?_) (a' := ?_) #[true, true, true, true, true, true, true, true, true, true, true, true, true, true, true, true, true, true, false] rfl rfl (by kernel_rfl) (fun _ _ _ h => h) (Or.inl ⟨by rfl, ?_⟩) ?_ ?_
        rotate_left; · intro w'; go_simp; with_reducible rfl
        rotate_left; · simp only [Act.put, List.setIfInBounds_toArray, List.set_cons_zero, List.set_cons_succ, i64_w, i32_w]; rfl
        exact norm_ (by first | (simp only [putAll, Act.put, List.setIfInBounds_toArray, List.set_cons_zero, List.set_cons_succ]; done) | (simp only [putAll, Act.put, List.setIfInBounds_toArray, List.set_cons_zero, List.set_cons_succ]; rfl)) (J9 B _ ⟨M1, hB, hB0, nB⟩)
      refine goesF_ Try.func63 (by kernel_rfl) rfl #[.slice A1 6 (c - 9)] (by rfl) rfl rfl rfl (by simp only [List.map_toArray, List.map_cons, List.map_nil]; rfl) ?_
      refine (field_at A1 (c - 9) l1 6 _ (RD1.out _ M0.rd) LE1.out B1.out (by decide) N1.out).mono ?_
      rintro e W ⟨rfl, rfl⟩
      refine ⟨_, rfl, ?_⟩
      refine hK.out _ _ trivial (fun hHeld => ?_)
      clear hK K hHeld
      refine norm_ (a' := ?_) ?_ ?_
      rotate_left
      · show Act.put _ (some 23) _ = _; simp only [Act.put, List.setIfInBounds_toArray, List.set_cons_zero, List.set_cons_succ, i64_w, i32_w]; rfl
      refine two_ (i := 11) (j := 17) (Ni := some 27) (Nj := some 5) #[true, true, true, true, true, true, true, true, true, true, true, true, true, true, true, false, false, false, false] #[true, true, true, true, true, true, true, true, true, true, true, false, true, true, true, false, false, true, false] rfl rfl rfl rfl (by kernel_rfl) (by decide) (by decide) (fun K hK => ?_) (fun K hK => ?_)
      rotate_left
      · refine (alloc_step (cs := #[Value.int IntKind.i64 0, Value.int IntKind.i64 0, Value.int IntKind.i64 0, Value.int IntKind.i64 0]) (t := 32) (by rfl) (by first | (go_simp; done) | (go_simp; rfl)) ?_)
        intro B eB W2 hB hb
        have M1 := M0.below hb
        have nB : B ≠ r0 := by have := blk_lt M0.box; omega
        have hB0 : w.heap.size ≤ B := by have := M0.bel.size; omega
        clear eB hb
        refine hK.out _ _ trivial (fun hHeld => ?_)
        clear hK K hHeld
        refine norm_ (a' := ?_) ?_ ?_
        rotate_left
        · show Act.put _ (some 5) _ = _; simp only [Act.put, List.setIfInBounds_toArray, List.set_cons_zero, List.set_cons_succ, i64_w, i32_w]; rfl
        refine one_ (i := 11) (N := some 27) #[true, true, true, true, true, true, true, true, true, true, true, true, true, true, true, false, false, true, false] rfl rfl (by kernel_rfl) (by decide) (fun K hK => ?_)
        refine goesF_ Try.func63 (by kernel_rfl) rfl #[.slice A2 8 (c - 15)] (by rfl) rfl rfl rfl (by simp only [List.map_toArray, List.map_cons, List.map_nil]; rfl) ?_
        refine (field_at A2 (c - 15) l2 8 _ (RD2.out _ M1.rd) LE2.out B2.out (by decide) N2.out).mono ?_
        rintro e W ⟨rfl, rfl⟩
        refine ⟨_, rfl, ?_⟩
        refine hK.out _ _ trivial (fun hHeld => ?_)
        clear hK K hHeld
        refine norm_ (a' := ?_) ?_ ?_
        rotate_left
        · show Act.put _ (some 27) _ = _; simp only [Act.put, List.setIfInBounds_toArray, List.set_cons_zero, List.set_cons_succ, i64_w, i32_w]; rfl
        refine one_ (i := 15) (N := some 31) #[true, true, true, true, true, true, true, true, true, true, true, true, true, true, true, true, false, true, false] rfl rfl (by kernel_rfl) (by decide) (fun K hK => ?_)
        refine goesF_ Try.func63 (by kernel_rfl) rfl #[.slice A3 8 (c - 23)] (by rfl) rfl rfl rfl (by simp only [List.map_toArray, List.map_cons, List.map_nil]; rfl) ?_
        refine (field_at A3 (c - 23) l3 8 _ (RD3.out _ M1.rd) LE3.out B3.out (by decide) N3.out).mono ?_
        rintro e W ⟨rfl, rfl⟩
        refine ⟨_, rfl, ?_⟩
        refine hK.out _ _ trivial (fun hHeld => ?_)
        clear hK K hHeld
        refine norm_ (a' := ?_) ?_ ?_
        rotate_left
        · show Act.put _ (some 31) _ = _; simp only [Act.put, List.setIfInBounds_toArray, List.set_cons_zero, List.set_cons_succ, i64_w, i32_w]; rfl
        refine pure_ (i := 16) (N := some 32) (v := ?_) (a' := ?_) #[true, true, true, true, true, true, true, true, true, true, true, true, true, true, true, true, true, true, false] rfl rfl (by kernel_rfl) (fun _ _ _ h => h) (Or.inl ⟨by rfl, ?_⟩) ?_ ?_
        rotate_left; · intro w'; go_simp; with_reducible rfl
        rotate_left; · simp only [Act.put, List.setIfInBounds_toArray, List.set_cons_zero, List.set_cons_succ, i64_w, i32_w]; rfl
        exact norm_ (by first | (simp only [putAll, Act.put, List.setIfInBounds_toArray, List.set_cons_zero, List.set_cons_succ]; done) | (simp only [putAll, Act.put, List.setIfInBounds_toArray, List.set_cons_zero, List.set_cons_succ]; rfl)) (J9 B _ ⟨M1, hB, hB0, nB⟩)
      refine goesF_ Try.func63 (by kernel_rfl) rfl #[.slice A2 8 (c - 15)] (by rfl) rfl rfl rfl (by simp only [List.map_toArray, List.map_cons, List.map_nil]; rfl) ?_
      refine (field_at A2 (c - 15) l2 8 _ (RD2.out _ M0.rd) LE2.out B2.out (by decide) N2.out).mono ?_
      rintro e W ⟨rfl, rfl⟩
      refine ⟨_, rfl, ?_⟩
      refine hK.out _ _ trivial (fun hHeld => ?_)
      clear hK K hHeld
      refine norm_ (a' := ?_) ?_ ?_
      rotate_left
      · show Act.put _ (some 27) _ = _; simp only [Act.put, List.setIfInBounds_toArray, List.set_cons_zero, List.set_cons_succ, i64_w, i32_w]; rfl
      refine two_ (i := 15) (j := 17) (Ni := some 31) (Nj := some 5) #[true, true, true, true, true, true, true, true, true, true, true, true, true, true, true, true, false, false, false] #[true, true, true, true, true, true, true, true, true, true, true, true, true, true, true, false, false, true, false] rfl rfl rfl rfl (by kernel_rfl) (by decide) (by decide) (fun K hK => ?_) (fun K hK => ?_)
      rotate_left
      · refine (alloc_step (cs := #[Value.int IntKind.i64 0, Value.int IntKind.i64 0, Value.int IntKind.i64 0, Value.int IntKind.i64 0]) (t := 32) (by rfl) (by first | (go_simp; done) | (go_simp; rfl)) ?_)
        intro B eB W2 hB hb
        have M1 := M0.below hb
        have nB : B ≠ r0 := by have := blk_lt M0.box; omega
        have hB0 : w.heap.size ≤ B := by have := M0.bel.size; omega
        clear eB hb
        refine hK.out _ _ trivial (fun hHeld => ?_)
        clear hK K hHeld
        refine norm_ (a' := ?_) ?_ ?_
        rotate_left
        · show Act.put _ (some 5) _ = _; simp only [Act.put, List.setIfInBounds_toArray, List.set_cons_zero, List.set_cons_succ, i64_w, i32_w]; rfl
        refine one_ (i := 15) (N := some 31) #[true, true, true, true, true, true, true, true, true, true, true, true, true, true, true, true, false, true, false] rfl rfl (by kernel_rfl) (by decide) (fun K hK => ?_)
        refine goesF_ Try.func63 (by kernel_rfl) rfl #[.slice A3 8 (c - 23)] (by rfl) rfl rfl rfl (by simp only [List.map_toArray, List.map_cons, List.map_nil]; rfl) ?_
        refine (field_at A3 (c - 23) l3 8 _ (RD3.out _ M1.rd) LE3.out B3.out (by decide) N3.out).mono ?_
        rintro e W ⟨rfl, rfl⟩
        refine ⟨_, rfl, ?_⟩
        refine hK.out _ _ trivial (fun hHeld => ?_)
        clear hK K hHeld
        refine norm_ (a' := ?_) ?_ ?_
        rotate_left
        · show Act.put _ (some 31) _ = _; simp only [Act.put, List.setIfInBounds_toArray, List.set_cons_zero, List.set_cons_succ, i64_w, i32_w]; rfl
        refine pure_ (i := 16) (N := some 32) (v := ?_) (a' := ?_) #[true, true, true, true, true, true, true, true, true, true, true, true, true, true, true, true, true, true, false] rfl rfl (by kernel_rfl) (fun _ _ _ h => h) (Or.inl ⟨by rfl, ?_⟩) ?_ ?_
        rotate_left; · intro w'; go_simp; with_reducible rfl
        rotate_left; · simp only [Act.put, List.setIfInBounds_toArray, List.set_cons_zero, List.set_cons_succ, i64_w, i32_w]; rfl
        exact norm_ (by first | (simp only [putAll, Act.put, List.setIfInBounds_toArray, List.set_cons_zero, List.set_cons_succ]; done) | (simp only [putAll, Act.put, List.setIfInBounds_toArray, List.set_cons_zero, List.set_cons_succ]; rfl)) (J9 B _ ⟨M1, hB, hB0, nB⟩)
      refine goesF_ Try.func63 (by kernel_rfl) rfl #[.slice A3 8 (c - 23)] (by rfl) rfl rfl rfl (by simp only [List.map_toArray, List.map_cons, List.map_nil]; rfl) ?_
      refine (field_at A3 (c - 23) l3 8 _ (RD3.out _ M0.rd) LE3.out B3.out (by decide) N3.out).mono ?_
      rintro e W ⟨rfl, rfl⟩
      refine ⟨_, rfl, ?_⟩
      refine hK.out _ _ trivial (fun hHeld => ?_)
      clear hK K hHeld
      refine norm_ (a' := ?_) ?_ ?_
      rotate_left
      · show Act.put _ (some 31) _ = _; simp only [Act.put, List.setIfInBounds_toArray, List.set_cons_zero, List.set_cons_succ, i64_w, i32_w]; rfl
      refine pure_ (i := 16) (N := some 32) (v := ?_) (a' := ?_) #[true, true, true, true, true, true, true, true, true, true, true, true, true, true, true, true, true, false, false] rfl rfl (by kernel_rfl) (fun _ _ _ h => h) (Or.inl ⟨by rfl, ?_⟩) ?_ ?_
      rotate_left; · intro w'; go_simp; with_reducible rfl
      rotate_left; · simp only [Act.put, List.setIfInBounds_toArray, List.set_cons_zero, List.set_cons_succ, i64_w, i32_w]; rfl
      refine one_ (i := 17) (N := some 5) #[true, true, true, true, true, true, true, true, true, true, true, true, true, true, true, true, true, true, false] rfl rfl (by kernel_rfl) (by decide) (fun K hK => ?_)
      refine (alloc_step (cs := #[Value.int IntKind.i64 0, Value.int IntKind.i64 0, Value.int IntKind.i64 0, Value.int IntKind.i64 0]) (t := 32) (by rfl) (by first | (go_simp; done) | (go_simp; rfl)) ?_)
      intro B eB W2 hB hb
      have M1 := M0.below hb
      have nB : B ≠ r0 := by have := blk_lt M0.box; omega
      have hB0 : w.heap.size ≤ B := by have := M0.bel.size; omega
      clear eB hb
      refine hK.out _ _ trivial (fun hHeld => ?_)
      clear hK K hHeld
      refine norm_ (a' := ?_) ?_ ?_
      rotate_left
      · show Act.put _ (some 5) _ = _; simp only [Act.put, List.setIfInBounds_toArray, List.set_cons_zero, List.set_cons_succ, i64_w, i32_w]; rfl
      exact norm_ (by first | (simp only [putAll, Act.put, List.setIfInBounds_toArray, List.set_cons_zero, List.set_cons_succ]; done) | (simp only [putAll, Act.put, List.setIfInBounds_toArray, List.set_cons_zero, List.set_cons_succ]; rfl)) (J9 B _ ⟨M1, hB, hB0, nB⟩)
    · have hb1 : (sumL l % 256 != 90) = true := by simp [hs]
      have HN := Aside0.mk (show ¬ (rd l 0 = 82 ∧ sumL l % 256 = 90) from fun q => hs q.2)
      clear h0 hs
      obtain ⟨o0, u0, o1, u1, o2, u2, o3, u3⟩ := box4 S0.out.box
      go_wp2_with (go_at_call 36; (with_reducible refine (controlroom_total.calls 40 _ c l _ _ S0.out.rd hc LT.out).mono ?_); rintro e w1 ⟨rfl, hd⟩; obtain ⟨n1, rfl⟩ := hd.out)
      have hbx := set4 ((S0.out.drewN n1).box) (Value.int IntKind.i64 0) (Value.int IntKind.i64 0) (Value.int IntKind.i64 0) (Value.int IntKind.i64 0)
      refine bodyPost_ret (results_ct rfl _ _ r0 32 _ (0, 0) _ rfl hbx hu32 rfl (by kernel_rfl)) rfl ?_
      exact ⟨by rw [← HR.out]; unfold oneF; rw [if_neg HN.out]; rfl, below_set (below_set (below_set (below_set ((S0.out.drewN n1).bel) S0.out.hb) S0.out.hb) S0.out.hb) S0.out.hb⟩
  · have hb0 : (rd l 0 != 82) = true := by simp [h0]
    have HN := Aside0.mk (show ¬ (rd l 0 = 82 ∧ sumL l % 256 = 90) from fun q => h0 q.1)
    clear h0
    obtain ⟨o0, u0, o1, u1, o2, u2, o3, u3⟩ := box4 S0.out.box
    go_wp2_with fail
    have hbx := set4 (S0.out.box) (Value.int IntKind.i64 0) (Value.int IntKind.i64 0) (Value.int IntKind.i64 0) (Value.int IntKind.i64 0)
    refine bodyPost_ret (results_ct rfl _ _ r0 32 _ (0, 0) _ rfl hbx hu32 rfl (by kernel_rfl)) rfl ?_
    exact ⟨by rw [← HR.out]; unfold oneF; rw [if_neg HN.out]; rfl, below_set (below_set (below_set (below_set (S0.out.bel) S0.out.hb) S0.out.hb) S0.out.hb) S0.out.hb⟩
end Go.Proofs.Ytgniegpeeaphlaa.HandA
