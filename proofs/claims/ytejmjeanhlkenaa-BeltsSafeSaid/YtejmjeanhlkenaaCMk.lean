/- Dice, belts and a line in their variables. -/
import Derived.Test.YtejmjeanhlkenaaCU
import Derived.Test.YtejmjeanhlkenaaCP6
namespace Go.Proofs.Ytejmjeanhlkenaa.HandA
open Go.RowKit Go.Proofs.Ytejmjeanhlkenaa.PB Go.Proofs.YtejmjeanhlkenaaW.PrintWords Go.Proofs.YtejmjeanhlkenaaW.PrintLast Go.Proofs.YtejmjeanhlkenaaW.PrintMore
set_option linter.unusedVariables false
set_option linter.unusedSimpArgs false
section
variable {P : Program} {ops : Array Oper} {o : Oper} {a : Act} {Q : Exit → Act → World → Prop} {Kc : Act → World → Prop}
theorem lit_step {W : World} (hw : Region.wanted o (yielded ops a.tmps) = true) {cs : Array Value} {t : TypeId} {n : Nat}
    (hrun : (execOp a.eval o).run P W = .ok (.value (.slice (some ⟨W.heap.size, 0, none⟩) n n)) (W.alloc (.cells cs t (0, 0))))
    (h : ∀ g, g = W.heap.size → ∀ w1, w1.heap[g]? = some (.cells cs t (0, 0)) → Below W.heap.size W w1 → Kc (a.put o.dst (.slice (some ⟨g, 0, none⟩) n n)) w1) : if Region.wanted o (yielded ops a.tmps) = true then Oper.wp P o a W Kc Q else Kc (a.put o.dst undef) W :=
  event_step hw hrun (h _ rfl _ (blk_new W _) (below_alloc (Below.refl _ _) _))
end
structure Mk (w W : World) (g : Nat) (L : List Int) (p : Int) (l : List S31) (A : Option Addr) (c bx : Nat) (v1 v2 v3 v4 : Value) (X : Ln) : Prop where
  dice : IsS53 w W g L p
  bel : Below w.heap.size w W
  row : Kd.R k31 31 W w.heap.size (fun _ => True) (.slice A l.length c) l
  own : Own W w.heap.size bx v1 v2 v3 v4 X
section
variable {w W W' : World} {g : Nat} {L : List Int} {p p' : Int} {l : List S31} {A : Option Addr} {c bx : Nat} {v1 v2 v3 v4 : Value} {X : Ln}
theorem Mk.below (h : Mk w W g L p l A c bx v1 v2 v3 v4 X) (hb : Below W.heap.size W W') : Mk w W' g L p l A c bx v1 v2 v3 v4 X :=
  ⟨h.dice.below hb, below_step h.bel hb, Kd.R_below h.row hb, h.own.below hb⟩
theorem Mk.alloc (h : Mk w W g L p l A c bx v1 v2 v3 v4 X) (o : Obj) : Mk w (W.alloc o) g L p l A c bx v1 v2 v3 v4 X := h.below (below_alloc (Below.refl _ _) o)
theorem Mk.drewN (h : Mk w W g L p l A c bx v1 v2 v3 v4 X) (n : Nat) : Mk w (W.drewN n) g L p l A c bx v1 v2 v3 v4 X := h.below (pw_below_drewN (Below.refl _ _) n)
theorem Mk.drew (h : Mk w W g L p l A c bx v1 v2 v3 v4 X) : Mk w W.drew g L p l A c bx v1 v2 v3 v4 X := h.below (below_drew1 (Below.refl _ _))
theorem Mk.ne (h : Mk w W g L p l A c bx v1 v2 v3 v4 X) : g ≠ bx := h.dice.ne_blk h.own.box (by decide)
theorem Mk.throw (h : Mk w W g L p l A c bx v1 v2 v3 v4 X) (hi : IsS53 w W' g L p') (hb : Below w.heap.size w W') (hk : KeepBut W W' g none) : Mk w W' g L p' l A c bx v1 v2 v3 v4 X := by
  have mv : ∀ {α : Type} {d : Kd α} {e : Nat} {ok : Nat → Prop} {v : Value} {xs : List α}, d.R e W w.heap.size ok v xs → (∀ q, q ∈ e :: d.E → q ≠ 53) → d.R e W' w.heap.size ok v xs := fun hr ht =>
    Kd.R_mono (Kd.R_keep (h.dice.apart hr ht) hk (fun _ h => h.2)) (fun _ h => h.1)
  exact ⟨hi, hb, mv h.row (by decide), ⟨(hk.2 bx (blk_lt h.own.box) (Ne.symm h.ne) (by simp)).trans h.own.box, h.own.hB, mv h.own.r1 (by decide), mv h.own.r2 (by decide), mv h.own.r3 (by decide), mv h.own.r4 (by decide)⟩⟩
theorem keep_blk {b : Nat} {o : Obj} (h : W.heap[b]? = some o) (hk : KeepBut W W' g none) (hne : b ≠ g) : W'.heap[b]? = some o := (hk.2 b (blk_lt h) hne (by simp)).trans h
theorem Mk.put {b : Nat} {u1 u2 u3 u4 : Value} {Y : Ln} (h : Mk w W g L p l A c bx v1 v2 v3 v4 X) (hb : Below W.heap.size W W') (hm : Made W' b u1 u2 u3 u4 Y) (hn : w.heap.size ≤ b) :
    Mk w (((((W'.setCell ⟨bx, 0, none⟩ (.int .i64 Y.tm)).setCell ⟨bx, 1, none⟩ u1).setCell ⟨bx, 2, none⟩ u2).setCell ⟨bx, 3, none⟩ u3).setCell ⟨bx, 4, none⟩ u4) g L p l A c bx u1 u2 u3 u4 Y := by
  have h' := h.below hb
  have SS := same5 W' bx (.int .i64 Y.tm) u1 u2 u3 u4
  exact ⟨((((h'.dice.far h'.ne _).far h'.ne _).far h'.ne _).far h'.ne _).far h'.ne _, below_same h'.bel SS h'.own.hB, R_sameT h'.row SS h'.own.box (by decide), own_made hm h'.own.box hn h'.own.hB⟩
theorem Mk.read (h : Mk w W g L p l A c bx v1 v2 v3 v4 X) : Kd.C k31 W A l.length l ∧ l.length ≤ c := ⟨(Kd.R_reads' h.row).2.2, (Kd.R_reads' h.row).2.1⟩
end
theorem Mk.first {w w2 w3 : World} {g : Nat} {L : List Int} {p : Int} {l : List S31} {A : Option Addr} {c : Nat} {v1 v2 v3 v4 : Value} {X : Ln} (hi : IsS53 w w2 g L p) (hb : Below w.heap.size w w2) (hr : Kd.R k31 31 w2 w.heap.size (fun _ => True) (.slice A l.length c) l) (hb3 : Below w2.heap.size w2 w3) (hm : Made w3 w2.heap.size v1 v2 v3 v4 X) :
    Mk w (w3.alloc (Obj.cells #[Value.int IntKind.i64 X.tm, v1, v2, v3, v4] 34)) g L p l A c w3.heap.size v1 v2 v3 v4 X := by
  have hb' := below_alloc hb3 (Obj.cells #[Value.int IntKind.i64 X.tm, v1, v2, v3, v4] 34)
  have ha : Below w3.heap.size w3 (w3.alloc (Obj.cells #[Value.int IntKind.i64 X.tm, v1, v2, v3, v4] 34)) := below_alloc (Below.refl _ _) _
  exact ⟨hi.below hb', below_step hb hb', Kd.R_below hr hb', ⟨blk_new w3 _, (by have := hb.size; have := hb3.size; omega), Kd.R_lower (Kd.R_below hm.r1 ha) hb.size, Kd.R_lower (Kd.R_below hm.r2 ha) hb.size, Kd.R_lower (Kd.R_below hm.r3 ha) hb.size, Kd.R_lower (Kd.R_below hm.r4 ha) hb.size⟩⟩
theorem Mk.wr {w W : World} {g : Nat} {L : List Int} {p : Int} {l : List S31} {A : Option Addr} {c bx : Nat} {v1 v2 v3 v4 : Value} {X : Ln} (h : Mk w W g L p l A c bx v1 v2 v3 v4 X) {b j t : Nat} {cs : Array Value} (hc : W.heap[b]? = some (.cells cs t (0, 0))) (ht : ∀ q, q ∈ 31 :: k31.E → q ≠ t) (hp : w.heap.size ≤ b) (u : Value) :
    Kd.C k31 (W.setCell ⟨b, j, none⟩ u) A l.length l ∧ Below w.heap.size w (W.setCell ⟨b, j, none⟩ u) :=
  ⟨(Kd.R_reads' (Kd.R_far (p := ⟨b, j, none⟩) (Kd.R_types h.row hc ht) (fun k hk => hk.2) u)).2.2, below_set h.bel hp⟩
/-- A row of numbers that was written out. -/
theorem row_read {V : World} {b t : Nat} {xs : List Int} {fr : Nat × Nat} (h : V.heap[b]? = some (.cells (xs.map (Value.int .i64)).toArray t fr)) (hx : xs.length ≤ 1000) : Kd.C (Kd.int .i64) V (some ⟨b, 0, none⟩) xs.length xs := by
  refine ⟨rfl, by omega, fun _ => ⟨_, rfl, fun j p hj => ⟨[.int .i64 p], rfl, rfl, fun i u hu => ?_⟩⟩⟩
  rcases i with _ | i
  · cases hu
    show V.cell? ((⟨b, 0, none⟩ : Addr).add (j * 1 + 0)) = _
    rw [Nat.mul_one, Nat.add_zero]
    by_cases hj0 : j = 0
    · subst hj0
      simp [World.cell?, Addr.add, h, hj]
    · simp [World.cell?, Addr.add, h, hj, hj0]
  · cases hu
/-- What a line of the made inputs keeps. -/
def Good (l : List S31) (X : Ln) : Prop := Lz X ∧ (X.st.length = 0 ∨ Lens X l.length)
theorem step_len {l : List S31} {x : Ln} {what i t : Int} : (stepF l x what i t).1.st.length = x.st.length ∧ (stepF l x what i t).1.si.length = x.si.length ∧ (stepF l x what i t).1.pu.length = x.pu.length ∧ (stepF l x what i t).1.he.length = x.he.length := by
  have s : (stopF l i x).st.length = x.st.length ∧ (stopF l i x).si.length = x.si.length ∧ (stopF l i x).pu = x.pu ∧ (stopF l i x).he = x.he := ⟨by simp [stopF, stopN, stopSt], by simp [stopF, stopN, stopSi], rfl, rfl⟩
  unfold stepF
  split
  · unfold startF
    repeat' split
    all_goals simp
  split
  · unfold waitG
    repeat' split
    all_goals simp [waitN, waitSt, waitSi]
  split
  · unfold stopG
    split
    · simp
    · exact ⟨s.1, s.2.1, by rw [s.2.2.1], by rw [s.2.2.2]⟩
  split
  · unfold pullG
    split
    · simp
    · exact ⟨s.1, s.2.1, by simp [pullF], s.2.2.2 ▸ rfl⟩
  split
  · unfold restG
    repeat' split
    all_goals simp [restF]
  · unfold holdG
    split
    · simp
    · unfold holdF
      split
      · exact ⟨s.1, s.2.1, s.2.2.1 ▸ rfl, by simp⟩
      · simp
theorem Good.step {l : List S31} {x : Ln} {what i t : Int} (h : Good l x) : Good l (stepF l x what i t).1 := by
  obtain ⟨e1, e2, e3, e4⟩ := step_len (l := l) (x := x) (what := what) (i := i) (t := t)
  obtain ⟨hz, hn | hn⟩ := h
  · exact ⟨step_lz hz, .inl (by omega)⟩
  · exact ⟨step_lz hz, .inr ⟨by rw [e1]; exact hn.e1, by rw [e2]; exact hn.e2, by rw [e3]; exact hn.e3, by rw [e4]; exact hn.e4⟩⟩
theorem Good.made {l : List S31} (hl : l.length ≤ 100) : Good l (makeG l).1 := by
  refine ⟨make_lz (by unfold Fit; omega), ?_⟩
  unfold makeG
  split
  · exact .inr ⟨by simp [zeroLn], by simp [zeroLn], by simp [zeroLn], by simp [zeroLn]⟩
  · exact .inl (by simp [zeroLn])
end Go.Proofs.Ytejmjeanhlkenaa.HandA
