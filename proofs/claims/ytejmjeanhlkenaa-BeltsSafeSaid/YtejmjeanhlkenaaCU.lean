import Derived.Test.YtejmjeanhlkenaaCT
/- A line in a variable: its box, and its rows outside the box. -/
namespace Go.Proofs.Ytejmjeanhlkenaa.HandA
open Go.RowKit Go.Proofs.Ytejmjeanhlkenaa.PB Go.Proofs.YtejmjeanhlkenaaW.PrintWords Go.Proofs.YtejmjeanhlkenaaW.PrintLast Go.Proofs.YtejmjeanhlkenaaW.PrintMore
set_option linter.unusedVariables false
set_option linter.unusedSimpArgs false
theorem box_open {V : World} {b t : Nat} {v0 v1 v2 v3 v4 : Value} (h : V.heap[b]? = some (.cells #[v0, v1, v2, v3, v4] t (0, 0))) : V.cell? ⟨b, 0, none⟩ = some v0 ∧ V.frozen? ⟨b, 0, none⟩ = false ∧ V.cell? ⟨b, 1, none⟩ = some v1 ∧ V.frozen? ⟨b, 1, none⟩ = false ∧ V.cell? ⟨b, 2, none⟩ = some v2 ∧ V.frozen? ⟨b, 2, none⟩ = false ∧ V.cell? ⟨b, 3, none⟩ = some v3 ∧ V.frozen? ⟨b, 3, none⟩ = false ∧ V.cell? ⟨b, 4, none⟩ = some v4 ∧ V.frozen? ⟨b, 4, none⟩ = false :=
  ⟨(blk_cell h 0).trans rfl, blk_frozen h 0, (blk_cell h 1).trans rfl, blk_frozen h 1, (blk_cell h 2).trans rfl, blk_frozen h 2, (blk_cell h 3).trans rfl, blk_frozen h 3, (blk_cell h 4).trans rfl, blk_frozen h 4⟩
theorem foot_same {P : World → Prop} {W W' : World} {B : Nat} (h : Foot P W (fun k => k ≠ B)) (s : Same W W' B) : Foot P W' (fun k => k ≠ B) := fun V hV => h V (fun k hk hlt => (hV k hk (by rw [s.size]; exact hlt)).trans (s.block k hk))
theorem foot_below {P : World → Prop} {W W' : World} {B : Nat} (h : Foot P W (fun k => k ≠ B)) (s : Below W.heap.size W W') : Foot P W' (fun k => k ≠ B) := Foot.step h (fun k _ hlt => s.block k hlt)
structure At (w W : World) (bx : Nat) (a : La) (X : Ln) : Prop where
  bel : Below w.heap.size w W
  hb : w.heap.size ≤ bx
  box : W.heap[bx]? = some (.cells #[.int .i64 X.tm, .slice a.A1 X.st.length a.c1, .slice a.A2 X.si.length a.c2, .slice a.A3 X.pu.length a.c3, .slice a.A4 X.he.length a.c4] 34 (0, 0))
  foot : Foot (fun V => LC V a X) W (fun k => k ≠ bx)
theorem At.lc {w W : World} {bx : Nat} {a : La} {X : Ln} (h : At w W bx a X) : LC W a X := Foot.now h.foot
theorem At.lt {w W : World} {bx : Nat} {a : La} {X : Ln} (h : At w W bx a X) : bx < W.heap.size := blk_lt h.box
theorem At.cell {w W : World} {bx : Nat} {a : La} {X : Ln} (h : At w W bx a X) : W.cell? ⟨bx, 0, none⟩ = some (.int .i64 X.tm) ∧ W.cell? ⟨bx, 1, none⟩ = some (.slice a.A1 X.st.length a.c1) ∧ W.cell? ⟨bx, 2, none⟩ = some (.slice a.A2 X.si.length a.c2) ∧ W.cell? ⟨bx, 3, none⟩ = some (.slice a.A3 X.pu.length a.c3) ∧ W.cell? ⟨bx, 4, none⟩ = some (.slice a.A4 X.he.length a.c4) :=
  ⟨(blk_cell h.box 0).trans rfl, (blk_cell h.box 1).trans rfl, (blk_cell h.box 2).trans rfl, (blk_cell h.box 3).trans rfl, (blk_cell h.box 4).trans rfl⟩
theorem At.below {w W W' : World} {bx : Nat} {a : La} {X : Ln} (h : At w W bx a X) (s : Below W.heap.size W W') : At w W' bx a X :=
  ⟨below_step h.bel s, h.hb, blk_below h.box s, foot_below h.foot s⟩
theorem At.same {w W W' : World} {bx b : Nat} {a : La} {X : Ln} (h : At w W bx a X) (h0 : Foot (fun V => LC V a X) W (fun k => k ≠ b)) (s : Same W W' b) (hn : w.heap.size ≤ b) (hb : bx ≠ b) : Below w.heap.size w W' ∧ W'.heap[bx]? = some (.cells #[.int .i64 X.tm, .slice a.A1 X.st.length a.c1, .slice a.A2 X.si.length a.c2, .slice a.A3 X.pu.length a.c3, .slice a.A4 X.he.length a.c4] 34 (0, 0)) ∧ LC W' a X :=
  ⟨below_same h.bel s hn, blk_same h.box s hb, Foot.now (foot_same h0 s)⟩
theorem gives_foot {W W' : World} {a a' : La} {X Y : Ln} {bx : Nat} (hf : Foot (fun V => LC V a X) W (fun k => k ≠ bx)) (g : (a' = a ∧ Y = X) ∨ Foot (fun V => LC V a' Y) W' (fun k => W.heap.size ≤ k)) (hlt : bx < W.heap.size) (s : Below W.heap.size W W') : Foot (fun V => LC V a' Y) W' (fun k => k ≠ bx) := by
  rcases g with ⟨rfl, rfl⟩ | g
  · exact foot_below hf s
  · exact fun V hV => g V (fun k hk hl => hV k (by omega) hl)
theorem At.put {w W : World} {bx : Nat} {a : La} {a0 a1 a2 a3 a4 : Value} {Y : Ln} (hbel : Below w.heap.size w W) (hb : w.heap.size ≤ bx) (box : W.heap[bx]? = some (.cells #[a0, a1, a2, a3, a4] 34 (0, 0))) (hf : Foot (fun V => LC V a Y) W (fun k => k ≠ bx)) :
    At w (((((W.setCell ⟨bx, 0, none⟩ (.int .i64 Y.tm)).setCell ⟨bx, 1, none⟩ (.slice a.A1 Y.st.length a.c1)).setCell ⟨bx, 2, none⟩ (.slice a.A2 Y.si.length a.c2)).setCell ⟨bx, 3, none⟩ (.slice a.A3 Y.pu.length a.c3)).setCell ⟨bx, 4, none⟩ (.slice a.A4 Y.he.length a.c4)) bx a Y :=
  have SS := same5 W bx (.int .i64 Y.tm) (.slice a.A1 Y.st.length a.c1) (.slice a.A2 Y.si.length a.c2) (.slice a.A3 Y.pu.length a.c3) (.slice a.A4 Y.he.length a.c4)
  ⟨below_same hbel SS hb, hb, set5 box _ _ _ _ _, foot_same hf SS⟩
/-- The line after a call is stored where the line before it lay. -/
theorem At.next {w W W' : World} {bx : Nat} {a a' : La} {X Y : Ln} (h : At w W bx a X) (g : (a' = a ∧ Y = X) ∨ Foot (fun V => LC V a' Y) W' (fun k => W.heap.size ≤ k)) (s : Below W.heap.size W W') :
    At w (((((W'.setCell ⟨bx, 0, none⟩ (.int .i64 Y.tm)).setCell ⟨bx, 1, none⟩ (.slice a'.A1 Y.st.length a'.c1)).setCell ⟨bx, 2, none⟩ (.slice a'.A2 Y.si.length a'.c2)).setCell ⟨bx, 3, none⟩ (.slice a'.A3 Y.pu.length a'.c3)).setCell ⟨bx, 4, none⟩ (.slice a'.A4 Y.he.length a'.c4)) bx a' Y :=
  At.put (below_step h.bel s) h.hb (blk_below h.box s) (gives_foot h.foot g h.lt s)
end Go.Proofs.Ytejmjeanhlkenaa.HandA

/- The law's own case: two belts, set going one after the other. -/
namespace Go.Proofs.Ytejmjeanhlkenaa.HandA
open Go.RowKit Go.Proofs.Ytejmjeanhlkenaa.PB Go.Proofs.YtejmjeanhlkenaaW.PrintWords Go.Proofs.YtejmjeanhlkenaaW.PrintLast Go.Proofs.YtejmjeanhlkenaaW.PrintMore
set_option linter.unusedVariables false
set_option linter.unusedSimpArgs false
theorem foot_new {P : World → Prop} {w1 : World} {n : Nat} (h : Foot P w1 (fun k => n ≤ k)) (o : Obj) : Foot P (w1.alloc o) (fun k => k ≠ w1.heap.size) := fun V hV => h V (fun k _ hl => (hV k (by omega) (by simp only [World.size_alloc]; omega)).trans (Below.block (below_alloc (Below.refl _ _) o) k hl))
/-- Another line lies in a new box: this one is as it was. -/
theorem At.two {w W w1 W2 : World} {bx : Nat} {a : La} {X : Ln} (h : At w W bx a X) (hb : Below W.heap.size W w1) (o : Obj) (s : Same (w1.alloc o) W2 w1.heap.size) : At w W2 bx a X :=
  h.below (below_same (below_alloc hb o) s hb.size)
def two : List S31 := [⟨-1, 5⟩, ⟨0, 3⟩]
theorem two_read {V : World} {b : Nat} (h : V.heap[b]? = some (.cells #[.int .i64 (-1), .int .i64 5, .int .i64 0, .int .i64 3] 31 (0, 0))) : Kd.C k31 V (some ⟨b, 0, none⟩) two.length two := by
  have c0 := (blk_cell h 0).trans rfl
  have c1 := (blk_cell h 1).trans rfl
  have c2 := (blk_cell h 2).trans rfl
  have c3 := (blk_cell h 3).trans rfl
  refine ⟨rfl, by decide, fun _ => ⟨_, rfl, fun j p hj => ?_⟩⟩
  rcases j with _ | _ | j
  · cases hj
    refine ⟨[.int .i64 (-1), .int .i64 5], rfl, ⟨_, _, rfl, rfl, rfl⟩, fun i u hu => ?_⟩
    rcases i with _ | _ | i
    · cases hu; exact c0
    · cases hu; exact c1
    · cases hu
  · cases hj
    refine ⟨[.int .i64 0, .int .i64 3], rfl, ⟨_, _, rfl, rfl, rfl⟩, fun i u hu => ?_⟩
    rcases i with _ | _ | i
    · cases hu; exact c2
    · cases hu; exact c3
    · cases hu
  · cases hj
theorem two_snd : Snd two := by
  have two2 : ∀ i : Int, 0 ≤ i → i < two.length → i = 0 ∨ i = 1 := fun i h0 h1 => by simp [two] at h1; omega
  refine ⟨by decide, ?_, ?_, ?_, ?_⟩
  · intro i h0 h1; rcases two2 i h0 h1 with rfl | rfl <;> decide
  · intro i h0 h1; rcases two2 i h0 h1 with rfl | rfl <;> decide
  · intro i h0 h1; rcases two2 i h0 h1 with rfl | rfl <;> decide
  · intro i h0 h1; rcases two2 i h0 h1 with rfl | rfl <;> decide
theorem two_vl {x : Ln} (hl : Lens x 2) (ht : 0 ≤ x.tm ∧ x.tm ≤ 2147483648) (h0 : LineOk two x 0) (h1 : LineOk two x 1) : vlB two x = true :=
  vlB_iff.2 ⟨two_snd, hl, ht, fun i k0 k1 => by
    have : i = 0 ∨ i = 1 := by simp [two] at k1; omega
    rcases this with rfl | rfl
    · exact h0
    · exact h1⟩
def tw0 : Ln := ⟨0, [0, 0], [0, 0], [false, false], [false, false]⟩
def tw1 : Ln := ⟨0, [1, 0], [0, 0], [false, false], [false, false]⟩
def tw2 : Ln := ⟨5, [2, 0], [5, 0], [false, false], [false, false]⟩
def tw3 : Ln := ⟨5, [2, 1], [5, 5], [false, false], [false, false]⟩
def tw4 : Ln := ⟨9, [2, 2], [5, 8], [false, false], [false, false]⟩
def tw5 : Ln := ⟨9, [0, 0], [9, 9], [true, false], [false, false]⟩
theorem v0 : vlB two tw0 = true := two_vl ⟨rfl, rfl, rfl, rfl⟩ (by decide) (by decide) (by decide)
theorem v1 : vlB two tw1 = true := two_vl ⟨rfl, rfl, rfl, rfl⟩ (by decide) (by decide) (by decide)
theorem v2 : vlB two tw2 = true := two_vl ⟨rfl, rfl, rfl, rfl⟩ (by decide) (by decide) (by decide)
theorem v3 : vlB two tw3 = true := two_vl ⟨rfl, rfl, rfl, rfl⟩ (by decide) (by decide) (by decide)
theorem v4 : vlB two tw4 = true := two_vl ⟨rfl, rfl, rfl, rfl⟩ (by decide) (by decide) (by decide)
theorem e0 : makeG two = (tw0, 0) := by unfold makeG; rw [if_pos two_snd]; rfl
theorem e1 : startF two tw0 1 = (tw0, 10) := by unfold startF chk; rw [v0]; rfl
theorem e2 : startF two tw0 0 = (tw1, 0) := by unfold startF chk; rw [v0]; rfl
theorem e3 : waitG two tw1 5 = (tw2, 0) := by unfold waitG; rw [v1]; rfl
theorem e4 : startF two tw2 1 = (tw3, 0) := by unfold startF chk; rw [v2]; rfl
theorem e5 : waitG two tw3 9 = (tw4, 0) := by unfold waitG; rw [v3]; rfl
theorem e6 : pullG two tw4 0 = (tw5, 0) := by unfold pullG chk; rw [v4]; rfl
theorem e7 : aboveF two 0 = [1] := by unfold aboveF; rw [if_pos ⟨two_snd, by decide, by decide⟩]; rfl
theorem foot_newer {W w1 : World} {a a' : La} {X Y : Ln} {bx : Nat} (hf : Foot (fun V => LC V a X) W (fun k => k ≠ bx)) (g : (a' = a ∧ Y = X) ∨ Foot (fun V => LC V a' Y) w1 (fun k => W.heap.size ≤ k)) (s : Below W.heap.size W w1) (hlt : bx < W.heap.size) (o : Obj) : Foot (fun V => LC V a' Y) (w1.alloc o) (fun k => k ≠ w1.heap.size) := by
  have h := gives_foot hf g hlt s
  exact fun V hV => h V (fun k _ hl => (hV k (by omega) (by simp only [World.size_alloc]; omega)).trans (Below.block (below_alloc (Below.refl _ _) o) k hl))
theorem two_int {V : World} {A : Option Addr} {n : Nat} {x y : Int} (h : Kd.C (Kd.int .i64) V A n [x, y]) : ∃ ad, A = some ad ∧ V.cell? (ad.add 1) = some (.int .i64 y) := by
  have hn : n = 2 := h.1.symm
  obtain ⟨ad, e, hc⟩ := h.2.2 (by omega)
  obtain ⟨c, hs, hr, hcell⟩ := hc 1 y rfl
  refine ⟨ad, e, ?_⟩
  have hr' : c = [.int .i64 y] := hr
  subst hr'
  exact hcell 0 _ rfl
theorem mk2 (w : World) (b : Nat) (h : w.heap[b]? = some (.cells #[.int .i64 (-1), .int .i64 5, .int .i64 0, .int .i64 3] 31 (0, 0))) : Calls Try.prog 12 #[.slice (some ⟨b, 0, none⟩) 2 2] w (GivesM w tw0 0) := by
  have := make_calls two (some ⟨b, 0, none⟩) 2 w (two_read h) (by decide) (by unfold Fit; decide)
  rw [e0] at this
  exact this
theorem st2 (w : World) (b : Nat) (h : w.heap[b]? = some (.cells #[.int .i64 (-1), .int .i64 5, .int .i64 0, .int .i64 3] 31 (0, 0))) (X Y : Ln) (a : La) (i r : Int) (hx : LC w a X) (e : startF two X i = (Y, r)) : Calls Try.prog 13 #[.slice (some ⟨b, 0, none⟩) 2 2, .agg #[.int .i64 X.tm, .slice a.A1 X.st.length a.c1, .slice a.A2 X.si.length a.c2, .slice a.A3 X.pu.length a.c3, .slice a.A4 X.he.length a.c4], .int .i64 i] w (Gives w X a Y r) := by
  have := start_calls two (some ⟨b, 0, none⟩) 2 X a i w (two_read h) (by decide) (by unfold Fit; decide) hx
  rw [e] at this
  exact this
theorem wt2 (w : World) (b : Nat) (h : w.heap[b]? = some (.cells #[.int .i64 (-1), .int .i64 5, .int .i64 0, .int .i64 3] 31 (0, 0))) (X Y : Ln) (a : La) (i r : Int) (hx : LC w a X) (e : waitG two X i = (Y, r)) : Calls Try.prog 14 #[.slice (some ⟨b, 0, none⟩) 2 2, .agg #[.int .i64 X.tm, .slice a.A1 X.st.length a.c1, .slice a.A2 X.si.length a.c2, .slice a.A3 X.pu.length a.c3, .slice a.A4 X.he.length a.c4], .int .i64 i] w (Gives w X a Y r) := by
  have := waitG_calls two (some ⟨b, 0, none⟩) 2 X a i w (two_read h) (by decide) (by unfold Fit; decide) hx
  rw [e] at this
  exact this
theorem pl2 (w : World) (b : Nat) (h : w.heap[b]? = some (.cells #[.int .i64 (-1), .int .i64 5, .int .i64 0, .int .i64 3] 31 (0, 0))) (X Y : Ln) (a : La) (i r : Int) (hx : LC w a X) (e : pullG two X i = (Y, r)) : Calls Try.prog 15 #[.slice (some ⟨b, 0, none⟩) 2 2, .agg #[.int .i64 X.tm, .slice a.A1 X.st.length a.c1, .slice a.A2 X.si.length a.c2, .slice a.A3 X.pu.length a.c3, .slice a.A4 X.he.length a.c4], .int .i64 i] w (Gives w X a Y r) := by
  have := pullG_calls two (some ⟨b, 0, none⟩) 2 X a i w (two_read h) (by decide) (by unfold Fit; decide) hx
  rw [e] at this
  exact this
theorem ab2 (w : World) (b : Nat) (h : w.heap[b]? = some (.cells #[.int .i64 (-1), .int .i64 5, .int .i64 0, .int .i64 3] 31 (0, 0))) : Calls Try.prog 16 #[.slice (some ⟨b, 0, none⟩) 2 2, .int .i64 0] w fun e w' => ∃ v, e = .returned v ∧ Kd.R (Kd.int .i64) 3 w' w.heap.size (fun _ => True) v [1] ∧ Below w.heap.size w w' := by
  have := above_calls two (some ⟨b, 0, none⟩) 2 0 w (two_read h) (by decide) (by unfold Fit; decide)
  rw [e7] at this
  exact this

set_option maxHeartbeats 16000000 in
set_option maxRecDepth 100000 in
theorem awake_calls (w : World) : Calls Try.prog 8 #[] w fun e w' => e = .returned (.bool true) ∧ Below w.heap.size w w' := by
  have hu34 := Try.underlying34
  go_enter Try.func8, Try.ntmps8
  go_upto_region 2 with fail
  have hq : Aside0 ((w.alloc (Obj.cells #[Value.int IntKind.i64 (-1), Value.int IntKind.i64 5, Value.int IntKind.i64 0, Value.int IntKind.i64 3] 31)).heap[w.heap.size]? = some (.cells #[.int .i64 (-1), .int .i64 5, .int .i64 0, .int .i64 3] 31 (0, 0))) := ⟨blk_new w _⟩
  have hb0 : Aside0 (Below w.heap.size w (w.alloc (Obj.cells #[Value.int IntKind.i64 (-1), Value.int IntKind.i64 5, Value.int IntKind.i64 0, Value.int IntKind.i64 3] 31))) := ⟨below_alloc (Below.refl _ _) _⟩
  have hlt0 : w.heap.size < (w.alloc (Obj.cells #[Value.int IntKind.i64 (-1), Value.int IntKind.i64 5, Value.int IntKind.i64 0, Value.int IntKind.i64 3] 31)).heap.size := by simp only [World.size_alloc]; omega
  generalize w.alloc (Obj.cells #[Value.int IntKind.i64 (-1), Value.int IntKind.i64 5, Value.int IntKind.i64 0, Value.int IntKind.i64 3] 31) = W0 at hq hb0 hlt0 ⊢
  go_upto_region 3 with (go_at_call 12; (with_reducible refine (mk2 _ _ hq.out).mono ?_); rintro e w1 ⟨v1, v2, v3, v4, rfl, hmm, hb1⟩; obtain ⟨a0, rfl, rfl, rfl, rfl, hla⟩ := hmm.form; have HM := Aside0.mk hmm; have HB1 := Aside0.mk hb1; clear hmm hla hb1)
  have hA : At w (w1.alloc (Obj.cells #[Value.int IntKind.i64 tw0.tm, Value.slice a0.A1 tw0.st.length a0.c1, Value.slice a0.A2 tw0.si.length a0.c2, Value.slice a0.A3 tw0.pu.length a0.c3, Value.slice a0.A4 tw0.he.length a0.c4] 34)) w1.heap.size a0 tw0 := ⟨below_alloc (below_step hb0.out HB1.out) _, (by have := hb0.out.size; have := HB1.out.size; omega), blk_new w1 _, foot_new HM.out.foot _⟩
  have hQ := blk_alloc (blk_below hq.out HB1.out) (Obj.cells #[Value.int IntKind.i64 tw0.tm, Value.slice a0.A1 tw0.st.length a0.c1, Value.slice a0.A2 tw0.si.length a0.c2, Value.slice a0.A3 tw0.pu.length a0.c3, Value.slice a0.A4 tw0.he.length a0.c4] 34)
  have hne : w.heap.size ≠ w1.heap.size := by have := HB1.out.size; omega
  generalize w1.alloc (Obj.cells #[Value.int IntKind.i64 tw0.tm, Value.slice a0.A1 tw0.st.length a0.c1, Value.slice a0.A2 tw0.si.length a0.c2, Value.slice a0.A3 tw0.pu.length a0.c3, Value.slice a0.A4 tw0.he.length a0.c4] 34) = W1 at hA hQ ⊢
  generalize w1.heap.size = bx at hA hne ⊢
  clear HM HB1 hb0 hq hlt0
  have A1 := Aside0.mk hA
  have Q1 := Aside0.mk hQ
  clear hA hQ
  have ⟨A1x0, A1x1, A1x2, A1x3, A1x4⟩ := A1.out.cell
  go_upto_region 4 with (go_at_call 13; (with_reducible refine (st2 _ _ Q1.out _ _ _ _ _ A1.out.lc e1).mono ?_); rintro e w2 ⟨a2, rfl, hg, -, hb⟩; have HG2 := Aside0.mk hg; have HB2 := Aside0.mk hb; clear hg hb)
  have hA := A1.out.below (below_alloc HB2.out (Obj.cells #[Value.int IntKind.i64 tw0.tm, Value.slice a2.A1 tw0.st.length a2.c1, Value.slice a2.A2 tw0.si.length a2.c2, Value.slice a2.A3 tw0.pu.length a2.c3, Value.slice a2.A4 tw0.he.length a2.c4] 34))
  have hQ := blk_alloc (blk_below Q1.out HB2.out) (Obj.cells #[Value.int IntKind.i64 tw0.tm, Value.slice a2.A1 tw0.st.length a2.c1, Value.slice a2.A2 tw0.si.length a2.c2, Value.slice a2.A3 tw0.pu.length a2.c3, Value.slice a2.A4 tw0.he.length a2.c4] 34)
  generalize w2.alloc (Obj.cells #[Value.int IntKind.i64 tw0.tm, Value.slice a2.A1 tw0.st.length a2.c1, Value.slice a2.A2 tw0.si.length a2.c2, Value.slice a2.A3 tw0.pu.length a2.c3, Value.slice a2.A4 tw0.he.length a2.c4] 34) = W2 at hA hQ ⊢
  have A2 := Aside0.mk hA
  have Q2 := Aside0.mk hQ
  clear hA hQ A1 Q1 A1x0 A1x1 A1x2 A1x3 A1x4 HG2 HB2
  have ⟨A2x0, A2x1, A2x2, A2x3, A2x4⟩ := A2.out.cell
  go_upto_region 5 with (go_at_call 13; (with_reducible refine (st2 _ _ Q2.out _ _ _ _ _ A2.out.lc e2).mono ?_); rintro e w3 ⟨a3, rfl, hg, -, hb⟩; have HG3 := Aside0.mk hg; have HB3 := Aside0.mk hb; clear hg hb; obtain ⟨o0, f0, o1, f1, o2, f2, o3, f3, o4, f4⟩ := box_open (blk_below A2.out.box HB3.out))
  have hA := A2.out.next HG3.out HB3.out
  have hQ := blk_same (blk_below Q2.out HB3.out) (same5 w3 bx (.int .i64 tw1.tm) (.slice a3.A1 tw1.st.length a3.c1) (.slice a3.A2 tw1.si.length a3.c2) (.slice a3.A3 tw1.pu.length a3.c3) (.slice a3.A4 tw1.he.length a3.c4)) hne
  generalize (World.setCell (World.setCell (World.setCell (World.setCell (World.setCell w3 ⟨bx, 0, none⟩ (Value.int IntKind.i64 tw1.tm)) ⟨bx, 1, none⟩ (Value.slice a3.A1 tw1.st.length a3.c1)) ⟨bx, 2, none⟩ (Value.slice a3.A2 tw1.si.length a3.c2)) ⟨bx, 3, none⟩ (Value.slice a3.A3 tw1.pu.length a3.c3)) ⟨bx, 4, none⟩ (Value.slice a3.A4 tw1.he.length a3.c4)) = W3 at hA hQ ⊢
  have A3 := Aside0.mk hA
  have Q3 := Aside0.mk hQ
  clear hA hQ o0 o1 o2 o3 o4 f0 f1 f2 f3 f4 A2 Q2 A2x0 A2x1 A2x2 A2x3 A2x4 HG3 HB3
  have ⟨A3x0, A3x1, A3x2, A3x3, A3x4⟩ := A3.out.cell
  go_upto_region 6 with (go_at_call 14; (with_reducible refine (wt2 _ _ Q3.out _ _ _ _ _ A3.out.lc e3).mono ?_); rintro e w4 ⟨a4, rfl, hg, -, hb⟩; have HG4 := Aside0.mk hg; have HB4 := Aside0.mk hb; clear hg hb; obtain ⟨o0, f0, o1, f1, o2, f2, o3, f3, o4, f4⟩ := box_open (blk_below A3.out.box HB4.out))
  have hA := A3.out.next HG4.out HB4.out
  have hQ := blk_same (blk_below Q3.out HB4.out) (same5 w4 bx (.int .i64 tw2.tm) (.slice a4.A1 tw2.st.length a4.c1) (.slice a4.A2 tw2.si.length a4.c2) (.slice a4.A3 tw2.pu.length a4.c3) (.slice a4.A4 tw2.he.length a4.c4)) hne
  generalize (World.setCell (World.setCell (World.setCell (World.setCell (World.setCell w4 ⟨bx, 0, none⟩ (Value.int IntKind.i64 tw2.tm)) ⟨bx, 1, none⟩ (Value.slice a4.A1 tw2.st.length a4.c1)) ⟨bx, 2, none⟩ (Value.slice a4.A2 tw2.si.length a4.c2)) ⟨bx, 3, none⟩ (Value.slice a4.A3 tw2.pu.length a4.c3)) ⟨bx, 4, none⟩ (Value.slice a4.A4 tw2.he.length a4.c4)) = W4 at hA hQ ⊢
  have A4 := Aside0.mk hA
  have Q4 := Aside0.mk hQ
  clear hA hQ o0 o1 o2 o3 o4 f0 f1 f2 f3 f4 A3 Q3 A3x0 A3x1 A3x2 A3x3 A3x4 HG4 HB4
  have ⟨A4x0, A4x1, A4x2, A4x3, A4x4⟩ := A4.out.cell
  go_upto_region 7 with (go_at_call 13; (with_reducible refine (st2 _ _ Q4.out _ _ _ _ _ A4.out.lc e4).mono ?_); rintro e w5 ⟨a5, rfl, hg, -, hb⟩; have HG5 := Aside0.mk hg; have HB5 := Aside0.mk hb; clear hg hb; obtain ⟨o0, f0, o1, f1, o2, f2, o3, f3, o4, f4⟩ := box_open (blk_below A4.out.box HB5.out))
  have hA := A4.out.next HG5.out HB5.out
  have hQ := blk_same (blk_below Q4.out HB5.out) (same5 w5 bx (.int .i64 tw3.tm) (.slice a5.A1 tw3.st.length a5.c1) (.slice a5.A2 tw3.si.length a5.c2) (.slice a5.A3 tw3.pu.length a5.c3) (.slice a5.A4 tw3.he.length a5.c4)) hne
  generalize (World.setCell (World.setCell (World.setCell (World.setCell (World.setCell w5 ⟨bx, 0, none⟩ (Value.int IntKind.i64 tw3.tm)) ⟨bx, 1, none⟩ (Value.slice a5.A1 tw3.st.length a5.c1)) ⟨bx, 2, none⟩ (Value.slice a5.A2 tw3.si.length a5.c2)) ⟨bx, 3, none⟩ (Value.slice a5.A3 tw3.pu.length a5.c3)) ⟨bx, 4, none⟩ (Value.slice a5.A4 tw3.he.length a5.c4)) = W5 at hA hQ ⊢
  have A5 := Aside0.mk hA
  have Q5 := Aside0.mk hQ
  clear hA hQ o0 o1 o2 o3 o4 f0 f1 f2 f3 f4 A4 Q4 A4x0 A4x1 A4x2 A4x3 A4x4 HG5 HB5
  have ⟨A5x0, A5x1, A5x2, A5x3, A5x4⟩ := A5.out.cell
  go_upto_region 8 with (go_at_call 14; (with_reducible refine (wt2 _ _ Q5.out _ _ _ _ _ A5.out.lc e5).mono ?_); rintro e w6 ⟨a6, rfl, hg, -, hb⟩; have HG6 := Aside0.mk hg; have HB6 := Aside0.mk hb; clear hg hb; obtain ⟨o0, f0, o1, f1, o2, f2, o3, f3, o4, f4⟩ := box_open (blk_below A5.out.box HB6.out))
  have hA := A5.out.next HG6.out HB6.out
  have hQ := blk_same (blk_below Q5.out HB6.out) (same5 w6 bx (.int .i64 tw4.tm) (.slice a6.A1 tw4.st.length a6.c1) (.slice a6.A2 tw4.si.length a6.c2) (.slice a6.A3 tw4.pu.length a6.c3) (.slice a6.A4 tw4.he.length a6.c4)) hne
  generalize (World.setCell (World.setCell (World.setCell (World.setCell (World.setCell w6 ⟨bx, 0, none⟩ (Value.int IntKind.i64 tw4.tm)) ⟨bx, 1, none⟩ (Value.slice a6.A1 tw4.st.length a6.c1)) ⟨bx, 2, none⟩ (Value.slice a6.A2 tw4.si.length a6.c2)) ⟨bx, 3, none⟩ (Value.slice a6.A3 tw4.pu.length a6.c3)) ⟨bx, 4, none⟩ (Value.slice a6.A4 tw4.he.length a6.c4)) = W6 at hA hQ ⊢
  have A6 := Aside0.mk hA
  have Q6 := Aside0.mk hQ
  clear hA hQ o0 o1 o2 o3 o4 f0 f1 f2 f3 f4 A5 Q5 A5x0 A5x1 A5x2 A5x3 A5x4 HG6 HB6
  have ⟨A6x0, A6x1, A6x2, A6x3, A6x4⟩ := A6.out.cell
  go_upto_region 9 with (go_at_call 15; (with_reducible refine (pl2 _ _ Q6.out _ _ _ _ _ A6.out.lc e6).mono ?_); rintro e w7 ⟨a7, rfl, hg, -, hb⟩; have HG7 := Aside0.mk hg; have HB7 := Aside0.mk hb; clear hg hb)
  have hA := A6.out.below (below_alloc HB7.out (Obj.cells #[Value.int IntKind.i64 tw5.tm, Value.slice a7.A1 tw5.st.length a7.c1, Value.slice a7.A2 tw5.si.length a7.c2, Value.slice a7.A3 tw5.pu.length a7.c3, Value.slice a7.A4 tw5.he.length a7.c4] 34))
  have hQ := blk_alloc (blk_below Q6.out HB7.out) (Obj.cells #[Value.int IntKind.i64 tw5.tm, Value.slice a7.A1 tw5.st.length a7.c1, Value.slice a7.A2 tw5.si.length a7.c2, Value.slice a7.A3 tw5.pu.length a7.c3, Value.slice a7.A4 tw5.he.length a7.c4] 34)
  have hY : At w (w7.alloc (Obj.cells #[Value.int IntKind.i64 tw5.tm, Value.slice a7.A1 tw5.st.length a7.c1, Value.slice a7.A2 tw5.si.length a7.c2, Value.slice a7.A3 tw5.pu.length a7.c3, Value.slice a7.A4 tw5.he.length a7.c4] 34)) w7.heap.size a7 tw5 := ⟨below_alloc (below_step A6.out.bel HB7.out) _, (by have := A6.out.bel.size; have := HB7.out.size; omega), blk_new w7 _, foot_newer A6.out.foot HG7.out HB7.out A6.out.lt _⟩
  generalize w7.alloc (Obj.cells #[Value.int IntKind.i64 tw5.tm, Value.slice a7.A1 tw5.st.length a7.c1, Value.slice a7.A2 tw5.si.length a7.c2, Value.slice a7.A3 tw5.pu.length a7.c3, Value.slice a7.A4 tw5.he.length a7.c4] 34) = W7 at hA hQ hY ⊢
  generalize w7.heap.size = bY at hY ⊢
  have A7 := Aside0.mk hA
  have Q7 := Aside0.mk hQ
  have Y7 := Aside0.mk hY
  clear hA hQ hY A6 Q6 A6x0 A6x1 A6x2 A6x3 A6x4 HG7 HB7
  obtain ⟨ad1, s1, f1⟩ := two_int A7.out.lc.r1
  obtain ⟨ad2, s2, f2⟩ := two_int A7.out.lc.r2
  obtain ⟨ad3, s3, f3⟩ := two_int Y7.out.lc.r1
  obtain ⟨A1, c1, A2, c2, A3, c3, A4, c4⟩ := a6
  obtain ⟨B1, d1, B2, d2, B3, d3, B4, d4⟩ := a7
  dsimp only at s1 s2 s3
  subst s1
  subst s2
  subst s3
  have ⟨xx0, xx1, xx2, xx3, xx4⟩ := A7.out.cell
  have ⟨yy0, yy1, yy2, yy3, yy4⟩ := Y7.out.cell
  go_wp2_with (go_at_call 16; (with_reducible refine (ab2 _ _ Q7.out).mono ?_); rintro e w8 ⟨v, rfl, hr, hb⟩; obtain ⟨A9, c9, rfl, l9, -⟩ := Kd.R_reads hr; have z1 : w8.cell? ⟨ad1.block, ad1.off + 1, none⟩ = some (.int .i64 2) := pw_cell_below hb f1; have z2 : w8.cell? ⟨ad2.block, ad2.off + 1, none⟩ = some (.int .i64 8) := pw_cell_below hb f2; have z3 : w8.cell? ⟨ad3.block, ad3.off + 1, none⟩ = some (.int .i64 0) := pw_cell_below hb f3; have q1 : w8.cell? ⟨bx, 1, none⟩ = some (.slice (some ad1) 2 c1) := pw_cell_below hb xx1; have q2 : w8.cell? ⟨bx, 2, none⟩ = some (.slice (some ad2) 2 c2) := pw_cell_below hb xx2; have q3 : w8.cell? ⟨bY, 1, none⟩ = some (.slice (some ad3) 2 d1) := pw_cell_below hb yy1; have HB8 := Aside0.mk (below_step A7.out.bel hb); clear hr)
  go_ret
  exact ⟨rfl, (by repeat (first | exact HB8.out | apply below_drew1 | apply pw_below_drewN))⟩
end Go.Proofs.Ytejmjeanhlkenaa.HandA
