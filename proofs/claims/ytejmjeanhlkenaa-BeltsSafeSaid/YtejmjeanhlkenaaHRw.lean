/- Dice, belts that grow, and a line in its variable. -/
import Derived.Test.YtejmjeanhlkenaaCMk
import Derived.Test.YtejmjeanhlkenaaCDi
import Derived.Test.YtejmjeanhlkenaaHPA
namespace Go.Proofs.Ytejmjeanhlkenaa.HandA
open Go.RowKit Go.Proofs.Ytejmjeanhlkenaa.PB Go.Proofs.YtejmjeanhlkenaaW.PrintWords Go.Proofs.YtejmjeanhlkenaaW.PrintLast Go.Proofs.YtejmjeanhlkenaaW.PrintMore
set_option linter.unusedVariables false
set_option linter.unusedSimpArgs false
/-- Dice, and belts that grow. -/
structure Rw (w W : World) (g : Nat) (L : List Int) (p : Int) (v : Value) (l : List S31) : Prop where
  dice : IsS53 w W g L p
  bel : Below w.heap.size w W
  row : Kd.R k31 31 W w.heap.size (fun _ => True) v l
section
variable {w W W' : World} {g : Nat} {L : List Int} {p p' : Int} {v : Value} {l : List S31}
theorem Rw.below (h : Rw w W g L p v l) (hb : Below W.heap.size W W') : Rw w W' g L p v l := ⟨h.dice.below hb, below_step h.bel hb, Kd.R_below h.row hb⟩
theorem Rw.alloc (h : Rw w W g L p v l) (o : Obj) : Rw w (W.alloc o) g L p v l := h.below (below_alloc (Below.refl _ _) o)
theorem Rw.drewN (h : Rw w W g L p v l) (n : Nat) : Rw w (W.drewN n) g L p v l := h.below (pw_below_drewN (Below.refl _ _) n)
theorem Rw.drew (h : Rw w W g L p v l) : Rw w W.drew g L p v l := h.below (below_drew1 (Below.refl _ _))
theorem Rw.throw (h : Rw w W g L p v l) (hi : IsS53 w W' g L p') (hb : Below w.heap.size w W') (hk : KeepBut W W' g none) : Rw w W' g L p' v l :=
  ⟨hi, hb, Kd.R_mono (Kd.R_keep (h.dice.apart h.row (by decide)) hk (fun _ h => h.2)) (fun _ h => h.1)⟩
end
/-- Dice, belts, and a line in its variable: its rows are not the variable's, nor the dice's. -/
structure Lw (w W : World) (g : Nat) (L : List Int) (p : Int) (A : Option Addr) (c : Nat) (l : List S31) (bx : Nat) (a : La) (X : Ln) : Prop where
  rw_ : Rw w W g L p (.slice A l.length c) l
  hb : w.heap.size ≤ bx
  box : W.heap[bx]? = some (.cells #[.int .i64 X.tm, .slice a.A1 X.st.length a.c1, .slice a.A2 X.si.length a.c2, .slice a.A3 X.pu.length a.c3, .slice a.A4 X.he.length a.c4] 34 (0, 0))
  foot : Foot (fun V => LC V a X) W (fun k => k ≠ bx ∧ k ≠ g)
section
variable {w W W' : World} {g : Nat} {L : List Int} {p p' : Int} {A : Option Addr} {c bx : Nat} {l : List S31} {a a' : La} {X Y : Ln}
theorem Lw.lc (h : Lw w W g L p A c l bx a X) : LC W a X := Foot.now h.foot
theorem Lw.ne (h : Lw w W g L p A c l bx a X) : g ≠ bx := h.rw_.dice.ne_blk h.box (by decide)
theorem Lw.read (h : Lw w W g L p A c l bx a X) : Kd.C k31 W A l.length l ∧ l.length ≤ c := ⟨(Kd.R_reads' h.rw_.row).2.2, (Kd.R_reads' h.rw_.row).2.1⟩
theorem Lw.below (h : Lw w W g L p A c l bx a X) (hb : Below W.heap.size W W') : Lw w W' g L p A c l bx a X :=
  ⟨h.rw_.below hb, h.hb, blk_below h.box hb, Foot.step h.foot (fun k _ hl => hb.block k hl)⟩
theorem Lw.alloc (h : Lw w W g L p A c l bx a X) (o : Obj) : Lw w (W.alloc o) g L p A c l bx a X := h.below (below_alloc (Below.refl _ _) o)
theorem Lw.drew (h : Lw w W g L p A c l bx a X) : Lw w W.drew g L p A c l bx a X := h.below (below_drew1 (Below.refl _ _))
theorem Lw.drewN (h : Lw w W g L p A c l bx a X) (n : Nat) : Lw w (W.drewN n) g L p A c l bx a X := h.below (pw_below_drewN (Below.refl _ _) n)
theorem Lw.throw (h : Lw w W g L p A c l bx a X) (hi : IsS53 w W' g L p') (hb : Below w.heap.size w W') (hk : KeepBut W W' g none) : Lw w W' g L p' A c l bx a X :=
  ⟨h.rw_.throw hi hb hk, h.hb, (hk.2 bx (blk_lt h.box) (Ne.symm h.ne) (by simp)).trans h.box, Foot.step h.foot (fun k hok hl => hk.2 k hl hok.2 (by simp))⟩
/-- What a function gives, stored where the line lay. -/
theorem Lw.next (h : Lw w W g L p A c l bx a X) (hg : (a' = a ∧ Y = X) ∨ Foot (fun V => LC V a' Y) W' (fun k => W.heap.size ≤ k)) (hb : Below W.heap.size W W') :
    Lw w (((((W'.setCell ⟨bx, 0, none⟩ (.int .i64 Y.tm)).setCell ⟨bx, 1, none⟩ (.slice a'.A1 Y.st.length a'.c1)).setCell ⟨bx, 2, none⟩ (.slice a'.A2 Y.si.length a'.c2)).setCell ⟨bx, 3, none⟩ (.slice a'.A3 Y.pu.length a'.c3)).setCell ⟨bx, 4, none⟩ (.slice a'.A4 Y.he.length a'.c4)) g L p A c l bx a' Y := by
  have h' := h.below hb
  have SS := same5 W' bx (.int .i64 Y.tm) (.slice a'.A1 Y.st.length a'.c1) (.slice a'.A2 Y.si.length a'.c2) (.slice a'.A3 Y.pu.length a'.c3) (.slice a'.A4 Y.he.length a'.c4)
  have hf : Foot (fun V => LC V a' Y) W' (fun k => k ≠ bx ∧ k ≠ g) := by
    rcases hg with ⟨rfl, rfl⟩ | hg
    · exact h'.foot
    · have l1 := blk_lt h.box
      have l2 := h.rw_.dice.lt
      exact fun V hV => hg V (fun k hk hl => hV k ⟨by omega, by omega⟩ hl)
  refine ⟨⟨((((h'.rw_.dice.far h'.ne _).far h'.ne _).far h'.ne _).far h'.ne _).far h'.ne _, below_same h'.rw_.bel SS h.hb, R_sameT h'.rw_.row SS h'.box (by decide)⟩, h.hb, set5 h'.box _ _ _ _ _, ?_⟩
  exact fun V hV => hf V (fun k hk hl => (hV k hk (by rw [SS.size]; exact hl)).trans (SS.block k hk.1))
theorem Lw.first {w2 w3 : World} (h : Rw w w2 g L p (.slice A l.length c) l) (hb : Below w2.heap.size w2 w3) (hm : Made w3 w2.heap.size (.slice a.A1 X.st.length a.c1) (.slice a.A2 X.si.length a.c2) (.slice a.A3 X.pu.length a.c3) (.slice a.A4 X.he.length a.c4) X) :
    Lw w (w3.alloc (Obj.cells #[Value.int IntKind.i64 X.tm, Value.slice a.A1 X.st.length a.c1, Value.slice a.A2 X.si.length a.c2, Value.slice a.A3 X.pu.length a.c3, Value.slice a.A4 X.he.length a.c4] 34)) g L p A c l w3.heap.size a X := by
  have hlt := h.dice.lt
  refine ⟨h.below (below_alloc hb _), (by have := h.bel.size; have := hb.size; omega), blk_new w3 _, ?_⟩
  exact fun V hV => hm.foot V (fun k hk hl => (hV k ⟨by omega, by omega⟩ (by simp only [World.size_alloc]; omega)).trans (Below.block (below_alloc (Below.refl _ _) _) k hl))
end
end Go.Proofs.Ytejmjeanhlkenaa.HandA
