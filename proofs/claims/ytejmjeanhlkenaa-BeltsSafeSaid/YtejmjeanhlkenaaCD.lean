import Derived.Test.YtejmjeanhlkenaaCA
/- A copy of a line with a change: done, over any change. Conditions: the line's slices can be read. -/
namespace Go.Proofs.Ytejmjeanhlkenaa.HandA
open Go.RowKit Go.Proofs.Ytejmjeanhlkenaa.PB Go.Proofs.YtejmjeanhlkenaaW.PrintWords Go.Proofs.YtejmjeanhlkenaaW.PrintLast Go.Proofs.YtejmjeanhlkenaaW.PrintMore
set_option linter.unusedVariables false
set_option linter.unusedSimpArgs false

/-- A line's data. -/
structure Ln where
  tm : Int
  st : List Int
  si : List Int
  pu : List Bool
  he : List Bool
/-- Where a line's slices lie. -/
structure La where
  A1 : Option Addr
  c1 : Nat
  A2 : Option Addr
  c2 : Nat
  A3 : Option Addr
  c3 : Nat
  A4 : Option Addr
  c4 : Nat
/-- A line that can be read. -/
structure LC (w : World) (a : La) (x : Ln) : Prop where
  r1 : Kd.C (Kd.int .i64) w a.A1 x.st.length x.st
  l1 : x.st.length ≤ a.c1
  r2 : Kd.C (Kd.int .i64) w a.A2 x.si.length x.si
  l2 : x.si.length ≤ a.c2
  r3 : Kd.C Kd.bool w a.A3 x.pu.length x.pu
  l3 : x.pu.length ≤ a.c3
  r4 : Kd.C Kd.bool w a.A4 x.he.length x.he
  l4 : x.he.length ≤ a.c4
theorem LC.below {w w1 : World} {a : La} {x : Ln} (h : LC w a x) (hb : Below w.heap.size w w1) : LC w1 a x :=
  ⟨Kd.C_below h.r1 hb, h.l1, Kd.C_below h.r2 hb, h.l2, Kd.C_below h.r3 hb, h.l3, Kd.C_below h.r4 hb, h.l4⟩
/-- Its slices are no longer than any machine holds. -/
structure Lz (x : Ln) : Prop where
  z1 : x.st.length < 17592186044416
  z2 : x.si.length < 17592186044416
  z3 : x.pu.length < 17592186044416
  z4 : x.he.length < 17592186044416
/-- A line of the call's own, in a variable at block B. -/
structure Own (w : World) (base B : Nat) (v1 v2 v3 v4 : Value) (x : Ln) : Prop where
  box : w.heap[B]? = some (.cells #[.int .i64 x.tm, v1, v2, v3, v4] 34 (0, 0))
  hB : base ≤ B
  r1 : Kd.R (Kd.int .i64) 3 w base (fun k => some k ≠ v2.ownBlock) v1 x.st
  r2 : Kd.R (Kd.int .i64) 3 w base (fun k => some k ≠ v1.ownBlock) v2 x.si
  r3 : Kd.R Kd.bool 4 w base (fun k => some k ≠ v4.ownBlock) v3 x.pu
  r4 : Kd.R Kd.bool 4 w base (fun k => some k ≠ v3.ownBlock) v4 x.he
/-- The blocks that a change may write. -/
def Rows (B : Nat) (v1 v2 v3 v4 : Value) (k : Nat) : Prop := k = B ∨ some k = v1.ownBlock ∨ some k = v2.ownBlock ∨ some k = v3.ownBlock ∨ some k = v4.ownBlock
/-- What a change comes to. -/
def Change (P : Program) (w : World) (fn : Nat) (caps : Array Value) (x y : Ln) : Prop :=
  ∀ (W : World) (B : Nat) (v1 v2 v3 v4 : Value), Below w.heap.size w W → Own W w.heap.size B v1 v2 v3 v4 x →
    Calls P fn (#[.pointer (some ⟨B, 0, none⟩)] ++ caps) W fun e w' => (∃ v, e = .returned v) ∧ Own w' w.heap.size B v1 v2 v3 v4 y ∧ Below w.heap.size w w' ∧ Kept W w' (Rows B v1 v2 v3 v4)
/-- A line that was made since. -/
structure Made (w : World) (base : Nat) (v1 v2 v3 v4 : Value) (x : Ln) : Prop where
  r1 : Kd.R (Kd.int .i64) 3 w base (fun k => some k ≠ v2.ownBlock) v1 x.st
  r2 : Kd.R (Kd.int .i64) 3 w base (fun k => some k ≠ v1.ownBlock) v2 x.si
  r3 : Kd.R Kd.bool 4 w base (fun k => some k ≠ v4.ownBlock) v3 x.pu
  r4 : Kd.R Kd.bool 4 w base (fun k => some k ≠ v3.ownBlock) v4 x.he

set_option maxHeartbeats 8000000 in
set_option maxRecDepth 100000 in
theorem done_calls (a : La) (x y : Ln) (fn : Nat) (f : Func) (caps : Array Value) (w : World) (hx : LC w a x) (hz : Lz x) (hf : Try.prog.funcs[fn]? = some f) (hname : (f.name == "runtime.NumGoroutine") = false) (hb : f.body.isSome = true)
    (hc : Change Try.prog w fn caps x y) :
    Calls Try.prog 31 #[.agg #[.int .i64 x.tm, .slice a.A1 x.st.length a.c1, .slice a.A2 x.si.length a.c2, .slice a.A3 x.pu.length a.c3, .slice a.A4 x.he.length a.c4], .func (.func fn) #[] caps] w
      fun e w' => ∃ v1 v2 v3 v4, e = .returned (.agg #[.int .i64 y.tm, v1, v2, v3, v4]) ∧ Made w' w.heap.size v1 v2 v3 v4 y ∧ Below w.heap.size w w' := by
  have HX := Aside0.mk hx
  have HZ := Aside0.mk hz
  have HF := Aside0.mk hf
  have HN := Aside0.mk hname
  have HBd := Aside0.mk hb
  have HC := Aside0.mk hc
  clear hx hz hf hname hb hc
  have hu34 := Try.underlying34
  go_enter Try.func31, Try.ntmps31
  go_wp2_with fail
  generalize hW : (w.alloc (Obj.cells #[Value.int IntKind.i64 x.tm, Value.slice a.A1 x.st.length a.c1, Value.slice a.A2 x.si.length a.c2, Value.slice a.A3 x.pu.length a.c3, Value.slice a.A4 x.he.length a.c4] 34)).alloc
    (Obj.cells #[Value.int IntKind.i64 0, Value.slice none 0 0, Value.slice none 0 0, Value.slice none 0 0, Value.slice none 0 0] 34) = W
  have hB0 : Below w.heap.size w W := by rw [← hW]; exact below_alloc (below_alloc (Below.refl _ _) _) _
  have hbx : W.heap[w.heap.size]? = some (.cells #[Value.int IntKind.i64 x.tm, Value.slice a.A1 x.st.length a.c1, Value.slice a.A2 x.si.length a.c2, Value.slice a.A3 x.pu.length a.c3, Value.slice a.A4 x.he.length a.c4] 34 (0, 0)) := by
    rw [← hW]; exact blk_alloc (blk_new _ _) _
  have hby : W.heap[w.heap.size + 1]? = some (.cells #[Value.int IntKind.i64 0, Value.slice none 0 0, Value.slice none 0 0, Value.slice none 0 0, Value.slice none 0 0] 34 (0, 0)) := by
    rw [← hW]; have := blk_new (w.alloc (Obj.cells #[Value.int IntKind.i64 x.tm, Value.slice a.A1 x.st.length a.c1, Value.slice a.A2 x.si.length a.c2, Value.slice a.A3 x.pu.length a.c3, Value.slice a.A4 x.he.length a.c4] 34)) (Obj.cells #[Value.int IntKind.i64 0, Value.slice none 0 0, Value.slice none 0 0, Value.slice none 0 0, Value.slice none 0 0] 34); simpa using this
  clear hW
  have k0 : W.cell? ⟨w.heap.size, 0, none⟩ = some (.int .i64 x.tm) := (blk_cell hbx 0).trans rfl
  have k1 : W.cell? ⟨w.heap.size, 1, none⟩ = some (.slice a.A1 x.st.length a.c1) := (blk_cell hbx 1).trans rfl
  have k2 : W.cell? ⟨w.heap.size, 2, none⟩ = some (.slice a.A2 x.si.length a.c2) := (blk_cell hbx 2).trans rfl
  have k3 : W.cell? ⟨w.heap.size, 3, none⟩ = some (.slice a.A3 x.pu.length a.c3) := (blk_cell hbx 3).trans rfl
  have k4 : W.cell? ⟨w.heap.size, 4, none⟩ = some (.slice a.A4 x.he.length a.c4) := (blk_cell hbx 4).trans rfl
  have hlt : w.heap.size < W.heap.size := blk_lt hbx
  have HB0 := Aside0.mk hB0
  have HBX := Aside0.mk hbx
  have HBY := Aside0.mk hby
  clear hB0 hbx hby
  go_cut [5] (fun v5 wc => ∃ (B : Nat) (u1 u2 u3 u4 : Value), v5 = .pointer (some ⟨B, 0, none⟩) ∧ Aside0 (Own wc w.heap.size B u1 u2 u3 u4 x) ∧ Aside0 (wc.heap[w.heap.size + 1]? = some (.cells #[Value.int IntKind.i64 0, Value.slice none 0 0, Value.slice none 0 0, Value.slice none 0 0, Value.slice none 0 0] 34 (0, 0))) ∧ Aside0 (Below w.heap.size w wc) ∧ w.heap.size + 1 < B)
  case first =>
    refine start_ (n := 17) (S := fun w' => w'.heap[w.heap.size]? = some (Obj.cells #[Value.int IntKind.i64 x.tm, Value.slice a.A1 x.st.length a.c1, Value.slice a.A2 x.si.length a.c2, Value.slice a.A3 x.pu.length a.c3, Value.slice a.A4 x.he.length a.c4] 34 (0, 0))) (ds := []) #[false, false, false, false, false, false, false, false, false, false, false, false, false, false, false, false, false] (by kernel_rfl) rfl rfl (blk_drew HBX.out) (fun hHeld => ?_)
    have HW := Aside0.mk (below_drew1 HB0.out)
    have HBY1 := Aside0.mk (blk_drew HBY.out)
    clear HB0 HBX HBY k0 k1 k2 k3 k4 hlt
    generalize W.drew = W0 at HW HBY1 hHeld ⊢
    refine pure_ (i := 0) (N := some 6) (v := ?_) (a' := ?_) #[true, false, false, false, false, false, false, false, false, false, false, false, false, false, false, false, false] rfl rfl (by kernel_rfl) (fun _ _ _ h => h) (Or.inl ⟨by rfl, ?_⟩) ?_ ?_
    rotate_left; · intro w'; go_simp; with_reducible rfl
    rotate_left; · simp only [Act.put, List.setIfInBounds_toArray, List.set_cons_zero, List.set_cons_succ, i64_w, i32_w]; rfl
    refine pure_ (i := 2) (N := some 8) (v := ?_) (a' := ?_) #[true, false, true, false, false, false, false, false, false, false, false, false, false, false, false, false, false] rfl rfl (by kernel_rfl) (fun _ _ _ h => h) (Or.inl ⟨by rfl, ?_⟩) ?_ ?_
    rotate_left; · intro w'; go_simp; with_reducible rfl
    rotate_left; · simp only [Act.put, List.setIfInBounds_toArray, List.set_cons_zero, List.set_cons_succ, i64_w, i32_w]; rfl
    refine pure_ (i := 5) (N := some 11) (v := ?_) (a' := ?_) #[true, false, true, false, false, true, false, false, false, false, false, false, false, false, false, false, false] rfl rfl (by kernel_rfl) (fun _ _ _ h => h) (Or.inl ⟨by rfl, ?_⟩) ?_ ?_
    rotate_left; · intro w'; go_simp; with_reducible rfl
    rotate_left; · simp only [Act.put, List.setIfInBounds_toArray, List.set_cons_zero, List.set_cons_succ, i64_w, i32_w]; rfl
    refine pure_ (i := 8) (N := some 14) (v := ?_) (a' := ?_) #[true, false, true, false, false, true, false, false, true, false, false, false, false, false, false, false, false] rfl rfl (by kernel_rfl) (fun _ _ _ h => h) (Or.inl ⟨by rfl, ?_⟩) ?_ ?_
    rotate_left; · intro w'; go_simp; with_reducible rfl
    rotate_left; · simp only [Act.put, List.setIfInBounds_toArray, List.set_cons_zero, List.set_cons_succ, i64_w, i32_w]; rfl
    refine pure_ (i := 11) (N := some 17) (v := ?_) (a' := ?_) #[true, false, true, false, false, true, false, false, true, false, false, true, false, false, false, false, false] rfl rfl (by kernel_rfl) (fun _ _ _ h => h) (Or.inl ⟨by rfl, ?_⟩) ?_ ?_
    rotate_left; · intro w'; go_simp; with_reducible rfl
    rotate_left; · simp only [Act.put, List.setIfInBounds_toArray, List.set_cons_zero, List.set_cons_succ, i64_w, i32_w]; rfl
    refine take_ (i := 1) (N := some 7) (v := ?_) (a' := ?_) #[true, true, true, false, false, true, false, false, true, false, false, true, false, false, false, false, false] rfl rfl (by kernel_rfl) (fun _ _ _ h => h) (Or.inl ⟨by rfl, ?_⟩) hHeld ?_ ?_
    rotate_left; · intro w' hs; have s0 := (blk_cell hs 0).trans rfl; have s1 := (blk_cell hs 1).trans rfl; have s2 := (blk_cell hs 2).trans rfl; have s3 := (blk_cell hs 3).trans rfl; have s4 := (blk_cell hs 4).trans rfl; clear hs; go_simp; with_reducible rfl
    rotate_left; · simp only [Act.put, List.setIfInBounds_toArray, List.set_cons_zero, List.set_cons_succ, i64_w, i32_w]; rfl
    refine take_ (i := 3) (N := some 9) (v := ?_) (a' := ?_) #[true, true, true, true, false, true, false, false, true, false, false, true, false, false, false, false, false] rfl rfl (by kernel_rfl) (fun _ _ _ h => h) (Or.inl ⟨by rfl, ?_⟩) hHeld ?_ ?_
    rotate_left; · intro w' hs; have s0 := (blk_cell hs 0).trans rfl; have s1 := (blk_cell hs 1).trans rfl; have s2 := (blk_cell hs 2).trans rfl; have s3 := (blk_cell hs 3).trans rfl; have s4 := (blk_cell hs 4).trans rfl; clear hs; go_simp; with_reducible rfl
    rotate_left; · simp only [Act.put, List.setIfInBounds_toArray, List.set_cons_zero, List.set_cons_succ, i64_w, i32_w]; rfl
    refine take_ (i := 6) (N := some 12) (v := ?_) (a' := ?_) #[true, true, true, true, false, true, true, false, true, false, false, true, false, false, false, false, false] rfl rfl (by kernel_rfl) (fun _ _ _ h => h) (Or.inl ⟨by rfl, ?_⟩) hHeld ?_ ?_
    rotate_left; · intro w' hs; have s0 := (blk_cell hs 0).trans rfl; have s1 := (blk_cell hs 1).trans rfl; have s2 := (blk_cell hs 2).trans rfl; have s3 := (blk_cell hs 3).trans rfl; have s4 := (blk_cell hs 4).trans rfl; clear hs; go_simp; with_reducible rfl
    rotate_left; · simp only [Act.put, List.setIfInBounds_toArray, List.set_cons_zero, List.set_cons_succ, i64_w, i32_w]; rfl
    refine take_ (i := 9) (N := some 15) (v := ?_) (a' := ?_) #[true, true, true, true, false, true, true, false, true, true, false, true, false, false, false, false, false] rfl rfl (by kernel_rfl) (fun _ _ _ h => h) (Or.inl ⟨by rfl, ?_⟩) hHeld ?_ ?_
    rotate_left; · intro w' hs; have s0 := (blk_cell hs 0).trans rfl; have s1 := (blk_cell hs 1).trans rfl; have s2 := (blk_cell hs 2).trans rfl; have s3 := (blk_cell hs 3).trans rfl; have s4 := (blk_cell hs 4).trans rfl; clear hs; go_simp; with_reducible rfl
    rotate_left; · simp only [Act.put, List.setIfInBounds_toArray, List.set_cons_zero, List.set_cons_succ, i64_w, i32_w]; rfl
    refine take_ (i := 12) (N := some 18) (v := ?_) (a' := ?_) #[true, true, true, true, false, true, true, false, true, true, false, true, true, false, false, false, false] rfl rfl (by kernel_rfl) (fun _ _ _ h => h) (Or.inl ⟨by rfl, ?_⟩) hHeld ?_ ?_
    rotate_left; · intro w' hs; have s0 := (blk_cell hs 0).trans rfl; have s1 := (blk_cell hs 1).trans rfl; have s2 := (blk_cell hs 2).trans rfl; have s3 := (blk_cell hs 3).trans rfl; have s4 := (blk_cell hs 4).trans rfl; clear hs; go_simp; with_reducible rfl
    rotate_left; · simp only [Act.put, List.setIfInBounds_toArray, List.set_cons_zero, List.set_cons_succ, i64_w, i32_w]; rfl
    refine join_ (σ := Value × Value × Value × Value × Nat) 1 #[true, true, true, true, true, true, true, true, true, true, true, true, true, true, true, true, false] (fun s_ => [(10, s_.1), (13, s_.2.1), (16, s_.2.2.1), (19, s_.2.2.2.1), (5, Value.pointer (some ⟨s_.2.2.2.2, 0, none⟩)), (20, Value.agg #[Value.int IntKind.i64 x.tm, s_.1, s_.2.1, s_.2.2.1, s_.2.2.2.1])]) (fun s_ w' => (Kd.R (Kd.int .i64) 3 w' w.heap.size (fun k => some k ≠ (s_.2.1 : Value).ownBlock) s_.1 x.st) ∧ (Kd.R (Kd.int .i64) 3 w' w.heap.size (fun k => some k ≠ (s_.1 : Value).ownBlock) s_.2.1 x.si) ∧ (Kd.R Kd.bool 4 w' w.heap.size (fun k => some k ≠ (s_.2.2.2.1 : Value).ownBlock) s_.2.2.1 x.pu) ∧ (Kd.R Kd.bool 4 w' w.heap.size (fun k => some k ≠ (s_.2.2.1 : Value).ownBlock) s_.2.2.2.1 x.he) ∧ (w'.heap[w.heap.size]? = some (Obj.cells #[Value.int IntKind.i64 x.tm, Value.slice a.A1 x.st.length a.c1, Value.slice a.A2 x.si.length a.c2, Value.slice a.A3 x.pu.length a.c3, Value.slice a.A4 x.he.length a.c4] 34 (0, 0))) ∧ (w'.heap[w.heap.size + 1]? = some (Obj.cells #[Value.int IntKind.i64 0, Value.slice none 0 0, Value.slice none 0 0, Value.slice none 0 0, Value.slice none 0 0] 34 (0, 0))) ∧ (Below w.heap.size w w') ∧ (w.heap.size + 1 < w'.heap.size) ∧ (w'.heap[s_.2.2.2.2]? = some (Obj.cells #[Value.int IntKind.i64 0, Value.slice none 0 0, Value.slice none 0 0, Value.slice none 0 0, Value.slice none 0 0] 34 (0, 0))) ∧ (w.heap.size + 1 < s_.2.2.2.2)) ?_ ?_
    · rintro ⟨u1, u2, u3, u4, B⟩ W1 ⟨R1, R2, R3, R4, HX0, HY0, HW0, hl0, HB1, hB1⟩
      simp only [putAll, Act.put, List.setIfInBounds_toArray, List.set_cons_zero, List.set_cons_succ]
      obtain ⟨g1, d1, rfl⟩ := Kd.R_slice R1; obtain ⟨g2, d2, rfl⟩ := Kd.R_slice R2; obtain ⟨g3, d3, rfl⟩ := Kd.R_slice R3; obtain ⟨g4, d4, rfl⟩ := Kd.R_slice R4
      refine one_ (i := 16) (N := none) #[true, true, true, true, true, true, true, true, true, true, true, true, true, true, true, true, true] rfl rfl (by kernel_rfl) (by decide) (fun K hK => ?_)
      have b0 := (blk_cell HB1 0).trans rfl; have b1 := (blk_cell HB1 1).trans rfl; have b2 := (blk_cell HB1 2).trans rfl; have b3 := (blk_cell HB1 3).trans rfl; have b4 := (blk_cell HB1 4).trans rfl
      have f0 := blk_frozen HB1 0; have f1 := blk_frozen HB1 1; have f2 := blk_frozen HB1 2; have f3 := blk_frozen HB1 3; have f4 := blk_frozen HB1 4
      refine skip_ (w1 := ?_) (by rfl) rfl ?_ ?_
      rotate_left
      · go_simp; rfl
      dsimp only at R1 R2 R3 R4 HB1 hB1
      have SS := same5 W1 B (.int .i64 x.tm) (.slice g1 x.st.length d1) (.slice g2 x.si.length d2) (.slice g3 x.pu.length d3) (.slice g4 x.he.length d4)
      refine hK.out _ _ (blk_same HX0 SS (by omega)) (fun hHeld => ?_)
      clear hK K
      refine done_ (by kernel_rfl) ?_
      go_wp2_with fail
      go_meet
      case rel => exact ⟨B, _, _, _, _, rfl, ⟨⟨set5 HB1 _ _ _ _ _, by omega, R_sameT R1 SS HB1 (by decide), R_sameT R2 SS HB1 (by decide), R_sameT R3 SS HB1 (by decide), R_sameT R4 SS HB1 (by decide)⟩⟩, ⟨blk_same HY0 SS (by omega)⟩, ⟨below_same HW0 SS (by omega)⟩, hB1⟩
    intro JF
    refine join_ (σ := Value × Value × Value × Value × Nat) 2 #[true, true, true, true, true, true, true, true, true, true, true, true, true, true, false, true, false] (fun s_ => [(10, s_.1), (13, s_.2.1), (16, s_.2.2.1), (19, s_.2.2.2.1), (5, Value.pointer (some ⟨s_.2.2.2.2, 0, none⟩))]) (fun s_ w' => (Kd.R (Kd.int .i64) 3 w' w.heap.size (fun k => some k ≠ (s_.2.1 : Value).ownBlock) s_.1 x.st) ∧ (Kd.R (Kd.int .i64) 3 w' w.heap.size (fun k => some k ≠ (s_.1 : Value).ownBlock) s_.2.1 x.si) ∧ (Kd.R Kd.bool 4 w' w.heap.size (fun k => some k ≠ (s_.2.2.2.1 : Value).ownBlock) s_.2.2.1 x.pu) ∧ (Kd.R Kd.bool 4 w' w.heap.size (fun k => some k ≠ (s_.2.2.1 : Value).ownBlock) s_.2.2.2.1 x.he) ∧ (w'.heap[w.heap.size]? = some (Obj.cells #[Value.int IntKind.i64 x.tm, Value.slice a.A1 x.st.length a.c1, Value.slice a.A2 x.si.length a.c2, Value.slice a.A3 x.pu.length a.c3, Value.slice a.A4 x.he.length a.c4] 34 (0, 0))) ∧ (w'.heap[w.heap.size + 1]? = some (Obj.cells #[Value.int IntKind.i64 0, Value.slice none 0 0, Value.slice none 0 0, Value.slice none 0 0, Value.slice none 0 0] 34 (0, 0))) ∧ (Below w.heap.size w w') ∧ (w.heap.size + 1 < w'.heap.size) ∧ (w'.heap[s_.2.2.2.2]? = some (Obj.cells #[Value.int IntKind.i64 0, Value.slice none 0 0, Value.slice none 0 0, Value.slice none 0 0, Value.slice none 0 0] 34 (0, 0))) ∧ (w.heap.size + 1 < s_.2.2.2.2)) ?_ ?_
    · rintro ⟨u1, u2, u3, u4, B⟩ W1 ⟨R1, R2, R3, R4, HX0, HY0, HW0, hl0, HB1, hB1⟩
      obtain ⟨g1, d1, rfl⟩ := Kd.R_slice R1; obtain ⟨g2, d2, rfl⟩ := Kd.R_slice R2; obtain ⟨g3, d3, rfl⟩ := Kd.R_slice R3; obtain ⟨g4, d4, rfl⟩ := Kd.R_slice R4
      simp only [putAll, Act.put, List.setIfInBounds_toArray, List.set_cons_zero, List.set_cons_succ]
      refine pure_ (i := 14) (N := some 20) (v := ?_) (a' := ?_) #[true, true, true, true, true, true, true, true, true, true, true, true, true, true, true, true, false] rfl rfl (by kernel_rfl) (fun _ _ _ h => h) (Or.inl ⟨by rfl, ?_⟩) ?_ ?_
      rotate_left; · intro w'; go_simp; with_reducible rfl
      rotate_left; · simp only [Act.put, List.setIfInBounds_toArray, List.set_cons_zero, List.set_cons_succ, i64_w, i32_w]; rfl
      exact norm_ (by first | (simp only [putAll, Act.put, List.setIfInBounds_toArray, List.set_cons_zero, List.set_cons_succ]; done) | (simp only [putAll, Act.put, List.setIfInBounds_toArray, List.set_cons_zero, List.set_cons_succ]; rfl)) (JF (.slice g1 x.st.length d1, .slice g2 x.si.length d2, .slice g3 x.pu.length d3, .slice g4 x.he.length d4, B) _ ⟨R1, R2, R3, R4, HX0, HY0, HW0, hl0, HB1, hB1⟩)
    intro J4
    refine join_ (σ := Value × Value × Value × Nat) 3 #[true, true, true, true, true, true, true, true, true, true, true, true, true, false, false, true, false] (fun s_ => [(10, s_.1), (13, s_.2.1), (16, s_.2.2.1), (5, Value.pointer (some ⟨s_.2.2.2, 0, none⟩))]) (fun s_ w' => (Kd.R (Kd.int .i64) 3 w' w.heap.size (fun k => some k ≠ (s_.2.1 : Value).ownBlock) s_.1 x.st) ∧ (Kd.R (Kd.int .i64) 3 w' w.heap.size (fun k => some k ≠ (s_.1 : Value).ownBlock) s_.2.1 x.si) ∧ (Kd.R Kd.bool 4 w' w.heap.size (fun _ => True) s_.2.2.1 x.pu) ∧ (w'.heap[w.heap.size]? = some (Obj.cells #[Value.int IntKind.i64 x.tm, Value.slice a.A1 x.st.length a.c1, Value.slice a.A2 x.si.length a.c2, Value.slice a.A3 x.pu.length a.c3, Value.slice a.A4 x.he.length a.c4] 34 (0, 0))) ∧ (w'.heap[w.heap.size + 1]? = some (Obj.cells #[Value.int IntKind.i64 0, Value.slice none 0 0, Value.slice none 0 0, Value.slice none 0 0, Value.slice none 0 0] 34 (0, 0))) ∧ (Below w.heap.size w w') ∧ (w.heap.size + 1 < w'.heap.size) ∧ (w'.heap[s_.2.2.2]? = some (Obj.cells #[Value.int IntKind.i64 0, Value.slice none 0 0, Value.slice none 0 0, Value.slice none 0 0, Value.slice none 0 0] 34 (0, 0))) ∧ (w.heap.size + 1 < s_.2.2.2)) ?_ ?_
    · rintro ⟨u1, u2, u3, B⟩ W1 ⟨R1, R2, R3, HX0, HY0, HW0, hl0, HB1, hB1⟩
      simp only [putAll, Act.put, List.setIfInBounds_toArray, List.set_cons_zero, List.set_cons_succ]
      refine one_ (i := 13) (N := some 19) #[true, true, true, true, true, true, true, true, true, true, true, true, true, true, false, true, false] rfl rfl (by kernel_rfl) (by decide) (fun K hK => ?_)
      refine goes_ Try.func55 (by kernel_rfl) rfl #[Value.slice a.A4 x.he.length a.c4] (by rfl) rfl rfl (by simp only [List.map_toArray, List.map_cons, List.map_nil]; rfl) ?_
      refine (clone_bool a.A4 a.c4 x.he _ (Kd.C_below HX.out.r4 HW0) HZ.out.z4).mono ?_
      rintro e W2 ⟨u4, rfl, hr, hb⟩
      refine ⟨_, rfl, ?_⟩
      refine hK.out _ _ (blk_below HX0 hb) (fun hHeld => ?_)
      clear hK K hHeld
      have N1 := Kd.R_below R1 hb
      have N2 := Kd.R_below R2 hb
      have N3 := Kd.R_mono (Kd.R_elder' R3 (Kd.R_base hr) hb) (fun _ hk => hk.2)
      have N4 := Kd.R_lower (Kd.R_mono (Kd.R_new' hr (Kd.R_lt R3)) (fun _ hk => hk.2)) HW0.size
      have NX := blk_below HX0 hb; have NY := blk_below HY0 hb; have NW := below_step HW0 hb; have nl := Nat.lt_of_lt_of_le hl0 hb.size
      have NB := blk_below HB1 hb
      clear R1 R2 R3 HX0 HY0 HW0 hl0 HB1 hr hb
      have R1 := N1; have R2 := N2; have R3 := N3; have R4 := N4; have HX0 := NX; have HY0 := NY; have HW0 := NW; have hl0 := nl; have HB1 := NB
      clear N1 N2 N3 N4 NX NY NW nl NB
      exact norm_ (by first | (simp only [putAll, Act.put, List.setIfInBounds_toArray, List.set_cons_zero, List.set_cons_succ]; done) | (simp only [putAll, Act.put, List.setIfInBounds_toArray, List.set_cons_zero, List.set_cons_succ]; rfl)) (J4 (u1, u2, u3, u4, B) _ ⟨R1, R2, R3, R4, HX0, HY0, HW0, hl0, HB1, hB1⟩)
    intro J3
    refine join_ (σ := Value × Value × Nat) 4 #[true, true, true, true, true, true, true, true, true, true, false, true, true, false, false, true, false] (fun s_ => [(10, s_.1), (13, s_.2.1), (5, Value.pointer (some ⟨s_.2.2, 0, none⟩))]) (fun s_ w' => (Kd.R (Kd.int .i64) 3 w' w.heap.size (fun k => some k ≠ (s_.2.1 : Value).ownBlock) s_.1 x.st) ∧ (Kd.R (Kd.int .i64) 3 w' w.heap.size (fun k => some k ≠ (s_.1 : Value).ownBlock) s_.2.1 x.si) ∧ (w'.heap[w.heap.size]? = some (Obj.cells #[Value.int IntKind.i64 x.tm, Value.slice a.A1 x.st.length a.c1, Value.slice a.A2 x.si.length a.c2, Value.slice a.A3 x.pu.length a.c3, Value.slice a.A4 x.he.length a.c4] 34 (0, 0))) ∧ (w'.heap[w.heap.size + 1]? = some (Obj.cells #[Value.int IntKind.i64 0, Value.slice none 0 0, Value.slice none 0 0, Value.slice none 0 0, Value.slice none 0 0] 34 (0, 0))) ∧ (Below w.heap.size w w') ∧ (w.heap.size + 1 < w'.heap.size) ∧ (w'.heap[s_.2.2]? = some (Obj.cells #[Value.int IntKind.i64 0, Value.slice none 0 0, Value.slice none 0 0, Value.slice none 0 0, Value.slice none 0 0] 34 (0, 0))) ∧ (w.heap.size + 1 < s_.2.2)) ?_ ?_
    · rintro ⟨u1, u2, B⟩ W1 ⟨R1, R2, HX0, HY0, HW0, hl0, HB1, hB1⟩
      simp only [putAll, Act.put, List.setIfInBounds_toArray, List.set_cons_zero, List.set_cons_succ]
      refine one_ (i := 10) (N := some 16) #[true, true, true, true, true, true, true, true, true, true, true, true, true, false, false, true, false] rfl rfl (by kernel_rfl) (by decide) (fun K hK => ?_)
      refine goes_ Try.func55 (by kernel_rfl) rfl #[Value.slice a.A3 x.pu.length a.c3] (by rfl) rfl rfl (by simp only [List.map_toArray, List.map_cons, List.map_nil]; rfl) ?_
      refine (clone_bool a.A3 a.c3 x.pu _ (Kd.C_below HX.out.r3 HW0) HZ.out.z3).mono ?_
      rintro e W2 ⟨u3, rfl, hr, hb⟩
      refine ⟨_, rfl, ?_⟩
      refine hK.out _ _ (blk_below HX0 hb) (fun hHeld => ?_)
      clear hK K hHeld
      have N1 := Kd.R_below R1 hb
      have N2 := Kd.R_below R2 hb
      have N3 := Kd.R_lower hr HW0.size
      have NX := blk_below HX0 hb; have NY := blk_below HY0 hb; have NW := below_step HW0 hb; have nl := Nat.lt_of_lt_of_le hl0 hb.size
      have NB := blk_below HB1 hb
      clear R1 R2 HX0 HY0 HW0 hl0 HB1 hr hb
      have R1 := N1; have R2 := N2; have R3 := N3; have HX0 := NX; have HY0 := NY; have HW0 := NW; have hl0 := nl; have HB1 := NB
      clear N1 N2 N3 NX NY NW nl NB
      exact norm_ (by first | (simp only [putAll, Act.put, List.setIfInBounds_toArray, List.set_cons_zero, List.set_cons_succ]; done) | (simp only [putAll, Act.put, List.setIfInBounds_toArray, List.set_cons_zero, List.set_cons_succ]; rfl)) (J3 (u1, u2, u3, B) _ ⟨R1, R2, R3, HX0, HY0, HW0, hl0, HB1, hB1⟩)
    intro J2
    refine join_ (σ := Value × Nat) 5 #[true, true, true, true, true, true, true, false, true, true, false, true, true, false, false, true, false] (fun s_ => [(10, s_.1), (5, Value.pointer (some ⟨s_.2, 0, none⟩))]) (fun s_ w' => (Kd.R (Kd.int .i64) 3 w' w.heap.size (fun _ => True) s_.1 x.st) ∧ (w'.heap[w.heap.size]? = some (Obj.cells #[Value.int IntKind.i64 x.tm, Value.slice a.A1 x.st.length a.c1, Value.slice a.A2 x.si.length a.c2, Value.slice a.A3 x.pu.length a.c3, Value.slice a.A4 x.he.length a.c4] 34 (0, 0))) ∧ (w'.heap[w.heap.size + 1]? = some (Obj.cells #[Value.int IntKind.i64 0, Value.slice none 0 0, Value.slice none 0 0, Value.slice none 0 0, Value.slice none 0 0] 34 (0, 0))) ∧ (Below w.heap.size w w') ∧ (w.heap.size + 1 < w'.heap.size) ∧ (w'.heap[s_.2]? = some (Obj.cells #[Value.int IntKind.i64 0, Value.slice none 0 0, Value.slice none 0 0, Value.slice none 0 0, Value.slice none 0 0] 34 (0, 0))) ∧ (w.heap.size + 1 < s_.2)) ?_ ?_
    · rintro ⟨u1, B⟩ W1 ⟨R1, HX0, HY0, HW0, hl0, HB1, hB1⟩
      simp only [putAll, Act.put, List.setIfInBounds_toArray, List.set_cons_zero, List.set_cons_succ]
      refine one_ (i := 7) (N := some 13) #[true, true, true, true, true, true, true, true, true, true, false, true, true, false, false, true, false] rfl rfl (by kernel_rfl) (by decide) (fun K hK => ?_)
      refine goes_ Try.func54 (by kernel_rfl) rfl #[Value.slice a.A2 x.si.length a.c2] (by rfl) rfl rfl (by simp only [List.map_toArray, List.map_cons, List.map_nil]; rfl) ?_
      refine (clone_int a.A2 a.c2 x.si _ (Kd.C_below HX.out.r2 HW0) HZ.out.z2).mono ?_
      rintro e W2 ⟨u2, rfl, hr, hb⟩
      refine ⟨_, rfl, ?_⟩
      refine hK.out _ _ (blk_below HX0 hb) (fun hHeld => ?_)
      clear hK K hHeld
      have N1 := Kd.R_mono (Kd.R_elder' R1 (Kd.R_base hr) hb) (fun _ hk => hk.2)
      have N2 := Kd.R_lower (Kd.R_mono (Kd.R_new' hr (Kd.R_lt R1)) (fun _ hk => hk.2)) HW0.size
      have NX := blk_below HX0 hb; have NY := blk_below HY0 hb; have NW := below_step HW0 hb; have nl := Nat.lt_of_lt_of_le hl0 hb.size
      have NB := blk_below HB1 hb
      clear R1 HX0 HY0 HW0 hl0 HB1 hr hb
      have R1 := N1; have R2 := N2; have HX0 := NX; have HY0 := NY; have HW0 := NW; have hl0 := nl; have HB1 := NB
      clear N1 N2 NX NY NW nl NB
      exact norm_ (by first | (simp only [putAll, Act.put, List.setIfInBounds_toArray, List.set_cons_zero, List.set_cons_succ]; done) | (simp only [putAll, Act.put, List.setIfInBounds_toArray, List.set_cons_zero, List.set_cons_succ]; rfl)) (J2 (u1, u2, B) _ ⟨R1, R2, HX0, HY0, HW0, hl0, HB1, hB1⟩)
    intro J1
    refine join_ (σ := Nat) 6 #[true, true, true, true, false, true, true, false, true, true, false, true, true, false, false, true, false] (fun s_ => [(5, Value.pointer (some ⟨s_, 0, none⟩))]) (fun s_ w' => (w'.heap[w.heap.size]? = some (Obj.cells #[Value.int IntKind.i64 x.tm, Value.slice a.A1 x.st.length a.c1, Value.slice a.A2 x.si.length a.c2, Value.slice a.A3 x.pu.length a.c3, Value.slice a.A4 x.he.length a.c4] 34 (0, 0))) ∧ (w'.heap[w.heap.size + 1]? = some (Obj.cells #[Value.int IntKind.i64 0, Value.slice none 0 0, Value.slice none 0 0, Value.slice none 0 0, Value.slice none 0 0] 34 (0, 0))) ∧ (Below w.heap.size w w') ∧ (w.heap.size + 1 < w'.heap.size) ∧ (w'.heap[s_]? = some (Obj.cells #[Value.int IntKind.i64 0, Value.slice none 0 0, Value.slice none 0 0, Value.slice none 0 0, Value.slice none 0 0] 34 (0, 0))) ∧ (w.heap.size + 1 < s_)) ?_ ?_
    · rintro B W1 ⟨HX0, HY0, HW0, hl0, HB1, hB1⟩
      simp only [putAll, Act.put, List.setIfInBounds_toArray, List.set_cons_zero, List.set_cons_succ]
      refine one_ (i := 4) (N := some 10) #[true, true, true, true, true, true, true, false, true, true, false, true, true, false, false, true, false] rfl rfl (by kernel_rfl) (by decide) (fun K hK => ?_)
      refine goes_ Try.func54 (by kernel_rfl) rfl #[Value.slice a.A1 x.st.length a.c1] (by rfl) rfl rfl (by simp only [List.map_toArray, List.map_cons, List.map_nil]; rfl) ?_
      refine (clone_int a.A1 a.c1 x.st _ (Kd.C_below HX.out.r1 HW0) HZ.out.z1).mono ?_
      rintro e W2 ⟨u1, rfl, hr, hb⟩
      refine ⟨_, rfl, ?_⟩
      refine hK.out _ _ (blk_below HX0 hb) (fun hHeld => ?_)
      clear hK K hHeld
      have N1 := Kd.R_lower hr HW0.size
      have NX := blk_below HX0 hb; have NY := blk_below HY0 hb; have NW := below_step HW0 hb; have nl := Nat.lt_of_lt_of_le hl0 hb.size
      have NB := blk_below HB1 hb
      clear HX0 HY0 HW0 hl0 HB1 hr hb
      have R1 := N1; have HX0 := NX; have HY0 := NY; have HW0 := NW; have hl0 := nl; have HB1 := NB
      clear N1 NX NY NW nl NB
      exact norm_ (by first | (simp only [putAll, Act.put, List.setIfInBounds_toArray, List.set_cons_zero, List.set_cons_succ]; done) | (simp only [putAll, Act.put, List.setIfInBounds_toArray, List.set_cons_zero, List.set_cons_succ]; rfl)) (J1 (u1, B) _ ⟨R1, HX0, HY0, HW0, hl0, HB1, hB1⟩)
    intro J0
    have HX0 := hHeld; have HY0 := HBY1.out; have HW0 := HW.out; have hl0 := blk_lt HBY1.out
    clear hHeld HBY1 HW
    refine two_ (i := 4) (j := 15) (Ni := some 10) (Nj := some 5) #[true, true, true, true, true, true, true, false, true, true, false, true, true, false, false, false, false] #[true, true, true, true, false, true, true, false, true, true, false, true, true, false, false, true, false] rfl rfl rfl rfl (by kernel_rfl) (by decide) (by decide) (fun K hK => ?_) (fun K hK => ?_)
    rotate_left
    · refine box_step (by rfl) (N := 5) rfl (cs := #[Value.int IntKind.i64 0, Value.slice none 0 0, Value.slice none 0 0, Value.slice none 0 0, Value.slice none 0 0]) (t := 34) (by first | (go_simp; done) | (go_simp; rfl)) ?_
      intro B hg W2 hbox hb
      refine hK.out _ _ (blk_below HX0 hb) (fun hHeld => ?_)
      have HX0 := blk_below HX0 hb; have HY0 := blk_below HY0 hb; have HW0 := below_step HW0 hb; have hB1 : w.heap.size + 1 < B := by rw [hg]; exact hl0
      have hl0 := Nat.lt_of_lt_of_le hl0 hb.size; have HB1 := hbox
      exact norm_ (by first | (simp only [putAll, Act.put, List.setIfInBounds_toArray, List.set_cons_zero, List.set_cons_succ]; done) | (simp only [putAll, Act.put, List.setIfInBounds_toArray, List.set_cons_zero, List.set_cons_succ]; rfl)) (J0 (B) _ ⟨HX0, HY0, HW0, hl0, HB1, hB1⟩)
    refine goes_ Try.func54 (by kernel_rfl) rfl #[Value.slice a.A1 x.st.length a.c1] (by rfl) rfl rfl (by simp only [List.map_toArray, List.map_cons, List.map_nil]; rfl) ?_
    refine (clone_int a.A1 a.c1 x.st _ (Kd.C_below HX.out.r1 HW0) HZ.out.z1).mono ?_
    rintro e W2 ⟨u1, rfl, hr, hb⟩
    refine ⟨_, rfl, ?_⟩
    refine hK.out _ _ (blk_below HX0 hb) (fun hHeld => ?_)
    clear hK K hHeld
    have N1 := Kd.R_lower hr HW0.size
    have NX := blk_below HX0 hb; have NY := blk_below HY0 hb; have NW := below_step HW0 hb; have nl := Nat.lt_of_lt_of_le hl0 hb.size
    clear HX0 HY0 HW0 hl0 hr hb
    have R1 := N1; have HX0 := NX; have HY0 := NY; have HW0 := NW; have hl0 := nl
    clear N1 NX NY NW nl
    refine norm_ (a' := ?_) ?_ ?_
    rotate_left
    · show Act.put _ (some 10) _ = _; simp only [Act.put, List.setIfInBounds_toArray, List.set_cons_zero, List.set_cons_succ, i64_w, i32_w]; rfl
    refine two_ (i := 7) (j := 15) (Ni := some 13) (Nj := some 5) #[true, true, true, true, true, true, true, true, true, true, false, true, true, false, false, false, false] #[true, true, true, true, true, true, true, false, true, true, false, true, true, false, false, true, false] rfl rfl rfl rfl (by kernel_rfl) (by decide) (by decide) (fun K hK => ?_) (fun K hK => ?_)
    rotate_left
    · refine box_step (by rfl) (N := 5) rfl (cs := #[Value.int IntKind.i64 0, Value.slice none 0 0, Value.slice none 0 0, Value.slice none 0 0, Value.slice none 0 0]) (t := 34) (by first | (go_simp; done) | (go_simp; rfl)) ?_
      intro B hg W2 hbox hb
      refine hK.out _ _ (blk_below HX0 hb) (fun hHeld => ?_)
      have R1 := Kd.R_below R1 hb
      have HX0 := blk_below HX0 hb; have HY0 := blk_below HY0 hb; have HW0 := below_step HW0 hb; have hB1 : w.heap.size + 1 < B := by rw [hg]; exact hl0
      have hl0 := Nat.lt_of_lt_of_le hl0 hb.size; have HB1 := hbox
      exact norm_ (by first | (simp only [putAll, Act.put, List.setIfInBounds_toArray, List.set_cons_zero, List.set_cons_succ]; done) | (simp only [putAll, Act.put, List.setIfInBounds_toArray, List.set_cons_zero, List.set_cons_succ]; rfl)) (J1 (u1, B) _ ⟨R1, HX0, HY0, HW0, hl0, HB1, hB1⟩)
    refine goes_ Try.func54 (by kernel_rfl) rfl #[Value.slice a.A2 x.si.length a.c2] (by rfl) rfl rfl (by simp only [List.map_toArray, List.map_cons, List.map_nil]; rfl) ?_
    refine (clone_int a.A2 a.c2 x.si _ (Kd.C_below HX.out.r2 HW0) HZ.out.z2).mono ?_
    rintro e W2 ⟨u2, rfl, hr, hb⟩
    refine ⟨_, rfl, ?_⟩
    refine hK.out _ _ (blk_below HX0 hb) (fun hHeld => ?_)
    clear hK K hHeld
    have N1 := Kd.R_mono (Kd.R_elder' R1 (Kd.R_base hr) hb) (fun _ hk => hk.2)
    have N2 := Kd.R_lower (Kd.R_mono (Kd.R_new' hr (Kd.R_lt R1)) (fun _ hk => hk.2)) HW0.size
    have NX := blk_below HX0 hb; have NY := blk_below HY0 hb; have NW := below_step HW0 hb; have nl := Nat.lt_of_lt_of_le hl0 hb.size
    clear R1 HX0 HY0 HW0 hl0 hr hb
    have R1 := N1; have R2 := N2; have HX0 := NX; have HY0 := NY; have HW0 := NW; have hl0 := nl
    clear N1 N2 NX NY NW nl
    refine norm_ (a' := ?_) ?_ ?_
    rotate_left
    · show Act.put _ (some 13) _ = _; simp only [Act.put, List.setIfInBounds_toArray, List.set_cons_zero, List.set_cons_succ, i64_w, i32_w]; rfl
    refine two_ (i := 10) (j := 15) (Ni := some 16) (Nj := some 5) #[true, true, true, true, true, true, true, true, true, true, true, true, true, false, false, false, false] #[true, true, true, true, true, true, true, true, true, true, false, true, true, false, false, true, false] rfl rfl rfl rfl (by kernel_rfl) (by decide) (by decide) (fun K hK => ?_) (fun K hK => ?_)
    rotate_left
    · refine box_step (by rfl) (N := 5) rfl (cs := #[Value.int IntKind.i64 0, Value.slice none 0 0, Value.slice none 0 0, Value.slice none 0 0, Value.slice none 0 0]) (t := 34) (by first | (go_simp; done) | (go_simp; rfl)) ?_
      intro B hg W2 hbox hb
      refine hK.out _ _ (blk_below HX0 hb) (fun hHeld => ?_)
      have R1 := Kd.R_below R1 hb
      have R2 := Kd.R_below R2 hb
      have HX0 := blk_below HX0 hb; have HY0 := blk_below HY0 hb; have HW0 := below_step HW0 hb; have hB1 : w.heap.size + 1 < B := by rw [hg]; exact hl0
      have hl0 := Nat.lt_of_lt_of_le hl0 hb.size; have HB1 := hbox
      exact norm_ (by first | (simp only [putAll, Act.put, List.setIfInBounds_toArray, List.set_cons_zero, List.set_cons_succ]; done) | (simp only [putAll, Act.put, List.setIfInBounds_toArray, List.set_cons_zero, List.set_cons_succ]; rfl)) (J2 (u1, u2, B) _ ⟨R1, R2, HX0, HY0, HW0, hl0, HB1, hB1⟩)
    refine goes_ Try.func55 (by kernel_rfl) rfl #[Value.slice a.A3 x.pu.length a.c3] (by rfl) rfl rfl (by simp only [List.map_toArray, List.map_cons, List.map_nil]; rfl) ?_
    refine (clone_bool a.A3 a.c3 x.pu _ (Kd.C_below HX.out.r3 HW0) HZ.out.z3).mono ?_
    rintro e W2 ⟨u3, rfl, hr, hb⟩
    refine ⟨_, rfl, ?_⟩
    refine hK.out _ _ (blk_below HX0 hb) (fun hHeld => ?_)
    clear hK K hHeld
    have N1 := Kd.R_below R1 hb
    have N2 := Kd.R_below R2 hb
    have N3 := Kd.R_lower hr HW0.size
    have NX := blk_below HX0 hb; have NY := blk_below HY0 hb; have NW := below_step HW0 hb; have nl := Nat.lt_of_lt_of_le hl0 hb.size
    clear R1 R2 HX0 HY0 HW0 hl0 hr hb
    have R1 := N1; have R2 := N2; have R3 := N3; have HX0 := NX; have HY0 := NY; have HW0 := NW; have hl0 := nl
    clear N1 N2 N3 NX NY NW nl
    refine norm_ (a' := ?_) ?_ ?_
    rotate_left
    · show Act.put _ (some 16) _ = _; simp only [Act.put, List.setIfInBounds_toArray, List.set_cons_zero, List.set_cons_succ, i64_w, i32_w]; rfl
    refine two_ (i := 13) (j := 15) (Ni := some 19) (Nj := some 5) #[true, true, true, true, true, true, true, true, true, true, true, true, true, true, false, false, false] #[true, true, true, true, true, true, true, true, true, true, true, true, true, false, false, true, false] rfl rfl rfl rfl (by kernel_rfl) (by decide) (by decide) (fun K hK => ?_) (fun K hK => ?_)
    rotate_left
    · refine box_step (by rfl) (N := 5) rfl (cs := #[Value.int IntKind.i64 0, Value.slice none 0 0, Value.slice none 0 0, Value.slice none 0 0, Value.slice none 0 0]) (t := 34) (by first | (go_simp; done) | (go_simp; rfl)) ?_
      intro B hg W2 hbox hb
      refine hK.out _ _ (blk_below HX0 hb) (fun hHeld => ?_)
      have R1 := Kd.R_below R1 hb
      have R2 := Kd.R_below R2 hb
      have R3 := Kd.R_below R3 hb
      have HX0 := blk_below HX0 hb; have HY0 := blk_below HY0 hb; have HW0 := below_step HW0 hb; have hB1 : w.heap.size + 1 < B := by rw [hg]; exact hl0
      have hl0 := Nat.lt_of_lt_of_le hl0 hb.size; have HB1 := hbox
      exact norm_ (by first | (simp only [putAll, Act.put, List.setIfInBounds_toArray, List.set_cons_zero, List.set_cons_succ]; done) | (simp only [putAll, Act.put, List.setIfInBounds_toArray, List.set_cons_zero, List.set_cons_succ]; rfl)) (J3 (u1, u2, u3, B) _ ⟨R1, R2, R3, HX0, HY0, HW0, hl0, HB1, hB1⟩)
    refine goes_ Try.func55 (by kernel_rfl) rfl #[Value.slice a.A4 x.he.length a.c4] (by rfl) rfl rfl (by simp only [List.map_toArray, List.map_cons, List.map_nil]; rfl) ?_
    refine (clone_bool a.A4 a.c4 x.he _ (Kd.C_below HX.out.r4 HW0) HZ.out.z4).mono ?_
    rintro e W2 ⟨u4, rfl, hr, hb⟩
    refine ⟨_, rfl, ?_⟩
    refine hK.out _ _ (blk_below HX0 hb) (fun hHeld => ?_)
    clear hK K hHeld
    have N1 := Kd.R_below R1 hb
    have N2 := Kd.R_below R2 hb
    have N3 := Kd.R_mono (Kd.R_elder' R3 (Kd.R_base hr) hb) (fun _ hk => hk.2)
    have N4 := Kd.R_lower (Kd.R_mono (Kd.R_new' hr (Kd.R_lt R3)) (fun _ hk => hk.2)) HW0.size
    have NX := blk_below HX0 hb; have NY := blk_below HY0 hb; have NW := below_step HW0 hb; have nl := Nat.lt_of_lt_of_le hl0 hb.size
    clear R1 R2 R3 HX0 HY0 HW0 hl0 hr hb
    have R1 := N1; have R2 := N2; have R3 := N3; have R4 := N4; have HX0 := NX; have HY0 := NY; have HW0 := NW; have hl0 := nl
    clear N1 N2 N3 N4 NX NY NW nl
    refine norm_ (a' := ?_) ?_ ?_
    rotate_left
    · show Act.put _ (some 19) _ = _; simp only [Act.put, List.setIfInBounds_toArray, List.set_cons_zero, List.set_cons_succ, i64_w, i32_w]; rfl
    obtain ⟨g1, d1, rfl⟩ := Kd.R_slice R1; obtain ⟨g2, d2, rfl⟩ := Kd.R_slice R2; obtain ⟨g3, d3, rfl⟩ := Kd.R_slice R3; obtain ⟨g4, d4, rfl⟩ := Kd.R_slice R4
    refine pure_ (i := 14) (N := some 20) (v := ?_) (a' := ?_) #[true, true, true, true, true, true, true, true, true, true, true, true, true, true, true, false, false] rfl rfl (by kernel_rfl) (fun _ _ _ h => h) (Or.inl ⟨by rfl, ?_⟩) ?_ ?_
    rotate_left; · intro w'; go_simp; with_reducible rfl
    rotate_left; · simp only [Act.put, List.setIfInBounds_toArray, List.set_cons_zero, List.set_cons_succ, i64_w, i32_w]; rfl
    refine one_ (i := 15) (N := some 5) #[true, true, true, true, true, true, true, true, true, true, true, true, true, true, true, true, false] rfl rfl (by kernel_rfl) (by decide) (fun K hK => ?_)
    refine box_step (by rfl) (N := 5) rfl (cs := #[Value.int IntKind.i64 0, Value.slice none 0 0, Value.slice none 0 0, Value.slice none 0 0, Value.slice none 0 0]) (t := 34) (by first | (go_simp; done) | (go_simp; rfl)) ?_
    intro B hg W2 hbox hb
    refine hK.out _ _ (blk_below HX0 hb) (fun hHeld => ?_)
    have R1 := Kd.R_below R1 hb
    have R2 := Kd.R_below R2 hb
    have R3 := Kd.R_below R3 hb
    have R4 := Kd.R_below R4 hb
    have HX0 := blk_below HX0 hb; have HY0 := blk_below HY0 hb; have HW0 := below_step HW0 hb; have hB1 : w.heap.size + 1 < B := by rw [hg]; exact hl0
    have hl0 := Nat.lt_of_lt_of_le hl0 hb.size; have HB1 := hbox
    exact norm_ (by first | (simp only [putAll, Act.put, List.setIfInBounds_toArray, List.set_cons_zero, List.set_cons_succ]; done) | (simp only [putAll, Act.put, List.setIfInBounds_toArray, List.set_cons_zero, List.set_cons_succ]; rfl)) (JF (.slice g1 x.st.length d1, .slice g2 x.si.length d2, .slice g3 x.pu.length d3, .slice g4 x.he.length d4, B) _ ⟨R1, R2, R3, R4, HX0, HY0, HW0, hl0, HB1, hB1⟩)
  case rest =>
    obtain ⟨B, u1, u2, u3, u4, rfl, HO, HYC, HWC, hB1⟩ := hcut
    go_wp2_with ((with_reducible refine gate_dst (N := 22) rfl ?_); refine goesV_ (some 22) rfl rfl HF.out HN.out HBd.out #[.pointer (some ⟨B, 0, none⟩)] rfl rfl (by simp only [List.map_toArray, List.map_cons, List.map_nil]; rfl) ?_; refine (HC.out _ B u1 u2 u3 u4 HWC.out HO.out).mono ?_; rintro e w2 ⟨⟨v, rfl⟩, ho2, hb2, hk2⟩; refine ⟨_, rfl, ?_⟩; have n0 : ¬ Rows B u1 u2 u3 u4 (w.heap.size + 1) := (fun h => h.elim (fun h => by omega) (fun h => h.elim (Kd.R_ne HO.out.r1 HYC.out (by decide)) (fun h => h.elim (Kd.R_ne HO.out.r2 HYC.out (by decide)) (fun h => h.elim (Kd.R_ne HO.out.r3 HYC.out (by decide)) (Kd.R_ne HO.out.r4 HYC.out (by decide)))))); have hy2 := blk_kept HYC.out hk2 n0; obtain ⟨g1, d1, rfl⟩ := Kd.R_slice ho2.r1; obtain ⟨g2, d2, rfl⟩ := Kd.R_slice ho2.r2; obtain ⟨g3, d3, rfl⟩ := Kd.R_slice ho2.r3; obtain ⟨g4, d4, rfl⟩ := Kd.R_slice ho2.r4; have b0 := (blk_cell ho2.box 0).trans rfl; have b1 := (blk_cell ho2.box 1).trans rfl; have b2 := (blk_cell ho2.box 2).trans rfl; have b3 := (blk_cell ho2.box 3).trans rfl; have b4 := (blk_cell ho2.box 4).trans rfl; have c0 := (blk_cell hy2 0).trans rfl; have c1 := (blk_cell hy2 1).trans rfl; have c2 := (blk_cell hy2 2).trans rfl; have c3 := (blk_cell hy2 3).trans rfl; have c4 := (blk_cell hy2 4).trans rfl; have f0 := blk_frozen hy2 0; have f1 := blk_frozen hy2 1; have f2 := blk_frozen hy2 2; have f3 := blk_frozen hy2 3; have f4 := blk_frozen hy2 4; have HO2 := Aside0.mk ho2; have HB2 := Aside0.mk hb2; have HY2 := Aside0.mk hy2; clear ho2 hb2 hk2 n0 hy2)
    have SS := same5 w2 (w.heap.size + 1) (.int .i64 y.tm) (.slice g1 y.st.length d1) (.slice g2 y.si.length d2) (.slice g3 y.pu.length d3) (.slice g4 y.he.length d4)
    refine bodyPost_ret (results_cell_row rfl _ _ (w.heap.size + 1) 34 #[.int .i64 y.tm, .slice g1 y.st.length d1, .slice g2 y.si.length d2, .slice g3 y.pu.length d3, .slice g4 y.he.length d4] (0, 0) _ rfl (set5 HY2.out _ _ _ _ _) hu34 rfl rfl) rfl ?_
    exact ⟨_, _, _, _, rfl, ⟨R_sameT HO2.out.r1 SS HY2.out (by decide), R_sameT HO2.out.r2 SS HY2.out (by decide), R_sameT HO2.out.r3 SS HY2.out (by decide), R_sameT HO2.out.r4 SS HY2.out (by decide)⟩, below_same HB2.out SS (by omega)⟩
end Go.Proofs.Ytejmjeanhlkenaa.HandA
