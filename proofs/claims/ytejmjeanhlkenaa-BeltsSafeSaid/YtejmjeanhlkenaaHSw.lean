/- Dice, belts, a line in its variable, and a row of times. -/
import Derived.Test.YtejmjeanhlkenaaHRw
import Derived.Test.YtejmjeanhlkenaaHPS
namespace Go.Proofs.Ytejmjeanhlkenaa.HandA
open Go.RowKit Go.Proofs.Ytejmjeanhlkenaa.PB Go.Proofs.YtejmjeanhlkenaaW.PrintWords Go.Proofs.YtejmjeanhlkenaaW.PrintLast Go.Proofs.YtejmjeanhlkenaaW.PrintMore
set_option linter.unusedVariables false
set_option linter.unusedSimpArgs false
abbrev lcells (a : La) (X : Ln) : Array Value := #[.int .i64 X.tm, .slice a.A1 X.st.length a.c1, .slice a.A2 X.si.length a.c2, .slice a.A3 X.pu.length a.c3, .slice a.A4 X.he.length a.c4]
structure Sw (w W : World) (g : Nat) (L : List Int) (p : Int) (A : Option Addr) (c : Nat) (l : List S31) (bx : Nat) (a : La) (X : Ln) (gw : Nat) (Wd : List Int) : Prop where
  rw_ : Rw w W g L p (.slice A l.length c) l
  hb : w.heap.size ≤ bx
  box : W.heap[bx]? = some (.cells (lcells a X) 34 (0, 0))
  foot : Foot (fun V => LC V a X) W (fun k => k ≠ bx ∧ k ≠ g ∧ k ≠ gw)
  hgw : w.heap.size ≤ gw
  row : W.heap[gw]? = some (.cells (Wd.map (Value.int .i64)).toArray 3 (0, 0))
section
variable {w W W' : World} {g : Nat} {L : List Int} {p p' : Int} {A : Option Addr} {c bx gw : Nat} {l : List S31} {a a' : La} {X Y : Ln} {Wd : List Int}
theorem Sw.lc (h : Sw w W g L p A c l bx a X gw Wd) : LC W a X := Foot.now h.foot
theorem Sw.ne (h : Sw w W g L p A c l bx a X gw Wd) : g ≠ bx := h.rw_.dice.ne_blk h.box (by decide)
theorem Sw.neg (h : Sw w W g L p A c l bx a X gw Wd) : g ≠ gw := h.rw_.dice.ne_blk h.row (by decide)
theorem Sw.neb (h : Sw w W g L p A c l bx a X gw Wd) : bx ≠ gw := fun e => by
  have h1 := h.box
  have h2 := h.row
  rw [e, h2] at h1
  simp at h1
theorem Sw.read (h : Sw w W g L p A c l bx a X gw Wd) : Kd.C k31 W A l.length l ∧ l.length ≤ c := ⟨(Kd.R_reads' h.rw_.row).2.2, (Kd.R_reads' h.rw_.row).2.1⟩
theorem Sw.below (h : Sw w W g L p A c l bx a X gw Wd) (hb : Below W.heap.size W W') : Sw w W' g L p A c l bx a X gw Wd :=
  ⟨h.rw_.below hb, h.hb, blk_below h.box hb, Foot.step h.foot (fun k _ hl => hb.block k hl), h.hgw, blk_below h.row hb⟩
theorem Sw.alloc (h : Sw w W g L p A c l bx a X gw Wd) (o : Obj) : Sw w (W.alloc o) g L p A c l bx a X gw Wd := h.below (below_alloc (Below.refl _ _) o)
theorem Sw.drew (h : Sw w W g L p A c l bx a X gw Wd) : Sw w W.drew g L p A c l bx a X gw Wd := h.below (below_drew1 (Below.refl _ _))
theorem Sw.drewN (h : Sw w W g L p A c l bx a X gw Wd) (n : Nat) : Sw w (W.drewN n) g L p A c l bx a X gw Wd := h.below (pw_below_drewN (Below.refl _ _) n)
theorem Sw.throw (h : Sw w W g L p A c l bx a X gw Wd) (hi : IsS53 w W' g L p') (hb : Below w.heap.size w W') (hk : KeepBut W W' g none) : Sw w W' g L p' A c l bx a X gw Wd :=
  ⟨h.rw_.throw hi hb hk, h.hb, (hk.2 bx (blk_lt h.box) (Ne.symm h.ne) (by simp)).trans h.box, Foot.step h.foot (fun k hok hl => hk.2 k hl hok.2.1 (by simp)), h.hgw, (hk.2 gw (blk_lt h.row) (Ne.symm h.neg) (by simp)).trans h.row⟩
/-- What a function gives, stored where the line lay. -/
theorem Sw.next (h : Sw w W g L p A c l bx a X gw Wd) (hg : (a' = a ∧ Y = X) ∨ Foot (fun V => LC V a' Y) W' (fun k => W.heap.size ≤ k)) (hb : Below W.heap.size W W') :
    Sw w (((((W'.setCell ⟨bx, 0, none⟩ (.int .i64 Y.tm)).setCell ⟨bx, 1, none⟩ (.slice a'.A1 Y.st.length a'.c1)).setCell ⟨bx, 2, none⟩ (.slice a'.A2 Y.si.length a'.c2)).setCell ⟨bx, 3, none⟩ (.slice a'.A3 Y.pu.length a'.c3)).setCell ⟨bx, 4, none⟩ (.slice a'.A4 Y.he.length a'.c4)) g L p A c l bx a' Y gw Wd := by
  have h' := h.below hb
  have SS := same5 W' bx (.int .i64 Y.tm) (.slice a'.A1 Y.st.length a'.c1) (.slice a'.A2 Y.si.length a'.c2) (.slice a'.A3 Y.pu.length a'.c3) (.slice a'.A4 Y.he.length a'.c4)
  have hf : Foot (fun V => LC V a' Y) W' (fun k => k ≠ bx ∧ k ≠ g ∧ k ≠ gw) := by
    rcases hg with ⟨rfl, rfl⟩ | hg
    · exact h'.foot
    · have l1 := blk_lt h.box
      have l2 := h.rw_.dice.lt
      have l3 := blk_lt h.row
      exact fun V hV => hg V (fun k hk hl => hV k ⟨by omega, by omega, by omega⟩ hl)
  refine ⟨⟨((((h'.rw_.dice.far h'.ne _).far h'.ne _).far h'.ne _).far h'.ne _).far h'.ne _, below_same h'.rw_.bel SS h.hb, R_sameT h'.rw_.row SS h'.box (by decide)⟩, h.hb, set5 h'.box _ _ _ _ _, ?_, h.hgw, blk_same h'.row SS (Ne.symm h'.neb)⟩
  exact fun V hV => hf V (fun k hk hl => (hV k hk (by rw [SS.size]; exact hl)).trans (SS.block k hk.1))
/-- A time is written down. -/
theorem Sw.setw (h : Sw w W g L p A c l bx a X gw Wd) (i : Nat) (v : Int) : Sw w (W.setCell ⟨gw, i, none⟩ (.int .i64 v)) g L p A c l bx a X gw (Wd.set i v) := by
  have SS : Same W (W.setCell ⟨gw, i, none⟩ (.int .i64 v)) gw := (Same.refl W gw).set i _
  refine ⟨⟨h.rw_.dice.far h.neg _, below_same h.rw_.bel SS h.hgw, R_sameT h.rw_.row SS h.row (by decide)⟩, h.hb, blk_same h.box SS h.neb, ?_, h.hgw, ?_⟩
  · exact fun V hV => h.foot V (fun k hk hl => (hV k hk (by rw [SS.size]; exact hl)).trans (SS.block k hk.2.2))
  · have := blk_set h.row i (.int .i64 v)
    rw [this]
    congr 2
    simp [List.map_set]
theorem Sw.time (h : Sw w W g L p A c l bx a X gw Wd) (i : Nat) (hi : i < Wd.length) : W.cell? ⟨gw, i, none⟩ = some (.int .i64 (rd Wd (i : Int))) ∧ W.frozen? ⟨gw, i, none⟩ = false := by
  refine ⟨(blk_cell h.row i).trans ?_, blk_frozen h.row i⟩
  simp [rd, hi]
theorem Sw.first (h : Lw w W g L p A c l bx a X) (n : Nat) (o : Obj) (ho : o = .cells ((List.replicate n (0 : Int)).map (Value.int .i64)).toArray 3 (0, 0)) : Sw w (W.alloc o) g L p A c l bx a X W.heap.size (List.replicate n 0) := by
  have h' := h.alloc o
  have l1 := blk_lt h.box
  have l2 := h.rw_.dice.lt
  have l3 := h.rw_.bel.size
  refine ⟨h'.rw_, h'.hb, h'.box, fun V hV => h.foot V (fun k hk hl => (hV k ⟨hk.1, hk.2, by omega⟩ (by simp only [World.size_alloc]; omega)).trans (Below.block (below_alloc (Below.refl _ _) o) k hl)), l3, ?_⟩
  rw [blk_new W o, ho]
end
theorem madeCells_eq (n : Nat) : madeCells #[Value.int .i64 0] n = ((List.replicate n (0 : Int)).map (Value.int .i64)).toArray := by
  apply Array.ext
  · simp [madeCells]
  · intro i h1 h2
    simp [madeCells, Nat.mod_one]
/-- .. and a copy of the line in a variable of its own. -/
structure Sv (w W : World) (g : Nat) (L : List Int) (p : Int) (A : Option Addr) (c : Nat) (l : List S31) (bx : Nat) (a : La) (X : Ln) (gw : Nat) (Wd : List Int) (bw : Nat) (b : La) (X0 : Ln) : Prop where
  sw : Sw w W g L p A c l bx a X gw Wd
  ne : bw ≠ bx
  box : W.heap[bw]? = some (.cells (lcells b X0) 34 (0, 0))
  foot : Foot (fun V => LC V b X0) W (fun k => k ≠ bx ∧ k ≠ g ∧ k ≠ gw)
section
variable {w W W' : World} {g : Nat} {L : List Int} {p p' : Int} {A : Option Addr} {c bx gw bw : Nat} {l : List S31} {a a' b : La} {X Y X0 : Ln} {Wd : List Int}
theorem Sv.lc (h : Sv w W g L p A c l bx a X gw Wd bw b X0) : LC W b X0 := Foot.now h.foot
theorem Sv.neg (h : Sv w W g L p A c l bx a X gw Wd bw b X0) : g ≠ bw := h.sw.rw_.dice.ne_blk h.box (by decide)
theorem Sv.neb (h : Sv w W g L p A c l bx a X gw Wd bw b X0) : bw ≠ gw := fun e => by
  have h1 := h.box
  have h2 := h.sw.row
  rw [e, h2] at h1
  simp at h1
theorem Sv.below (h : Sv w W g L p A c l bx a X gw Wd bw b X0) (hb : Below W.heap.size W W') : Sv w W' g L p A c l bx a X gw Wd bw b X0 :=
  ⟨h.sw.below hb, h.ne, blk_below h.box hb, Foot.step h.foot (fun k _ hl => hb.block k hl)⟩
theorem Sv.alloc (h : Sv w W g L p A c l bx a X gw Wd bw b X0) (o : Obj) : Sv w (W.alloc o) g L p A c l bx a X gw Wd bw b X0 := h.below (below_alloc (Below.refl _ _) o)
theorem Sv.drew (h : Sv w W g L p A c l bx a X gw Wd bw b X0) : Sv w W.drew g L p A c l bx a X gw Wd bw b X0 := h.below (below_drew1 (Below.refl _ _))
theorem Sv.drewN (h : Sv w W g L p A c l bx a X gw Wd bw b X0) (n : Nat) : Sv w (W.drewN n) g L p A c l bx a X gw Wd bw b X0 := h.below (pw_below_drewN (Below.refl _ _) n)
theorem Sv.throw (h : Sv w W g L p A c l bx a X gw Wd bw b X0) (hi : IsS53 w W' g L p') (hb : Below w.heap.size w W') (hk : KeepBut W W' g none) : Sv w W' g L p' A c l bx a X gw Wd bw b X0 :=
  ⟨h.sw.throw hi hb hk, h.ne, (hk.2 bw (blk_lt h.box) (Ne.symm h.neg) (by simp)).trans h.box, Foot.step h.foot (fun k hok hl => hk.2 k hl hok.2.1 (by simp))⟩
theorem Sv.next (h : Sv w W g L p A c l bx a X gw Wd bw b X0) (hg : (a' = a ∧ Y = X) ∨ Foot (fun V => LC V a' Y) W' (fun k => W.heap.size ≤ k)) (hb : Below W.heap.size W W') :
    Sv w (((((W'.setCell ⟨bx, 0, none⟩ (.int .i64 Y.tm)).setCell ⟨bx, 1, none⟩ (.slice a'.A1 Y.st.length a'.c1)).setCell ⟨bx, 2, none⟩ (.slice a'.A2 Y.si.length a'.c2)).setCell ⟨bx, 3, none⟩ (.slice a'.A3 Y.pu.length a'.c3)).setCell ⟨bx, 4, none⟩ (.slice a'.A4 Y.he.length a'.c4)) g L p A c l bx a' Y gw Wd bw b X0 := by
  have h' := h.below hb
  have SS := same5 W' bx (.int .i64 Y.tm) (.slice a'.A1 Y.st.length a'.c1) (.slice a'.A2 Y.si.length a'.c2) (.slice a'.A3 Y.pu.length a'.c3) (.slice a'.A4 Y.he.length a'.c4)
  exact ⟨h.sw.next hg hb, h.ne, blk_same h'.box SS h.ne, fun V hV => h'.foot V (fun k hk hl => (hV k hk (by rw [SS.size]; exact hl)).trans (SS.block k hk.1))⟩
theorem Sv.setw (h : Sv w W g L p A c l bx a X gw Wd bw b X0) (i : Nat) (v : Int) : Sv w (W.setCell ⟨gw, i, none⟩ (.int .i64 v)) g L p A c l bx a X gw (Wd.set i v) bw b X0 := by
  have SS : Same W (W.setCell ⟨gw, i, none⟩ (.int .i64 v)) gw := (Same.refl W gw).set i _
  exact ⟨h.sw.setw i v, h.ne, blk_same h.box SS h.neb, fun V hV => h.foot V (fun k hk hl => (hV k hk (by rw [SS.size]; exact hl)).trans (SS.block k hk.2.2))⟩
theorem Sv.first {w2 : World} (h : Sw w W g L p A c l bx a X gw Wd) (hb : Below W.heap.size W w2) (hm : Made w2 W.heap.size (.slice b.A1 X.st.length b.c1) (.slice b.A2 X.si.length b.c2) (.slice b.A3 X.pu.length b.c3) (.slice b.A4 X.he.length b.c4) X) :
    Sv w (w2.alloc (Obj.cells #[Value.int IntKind.i64 X.tm, Value.slice b.A1 X.st.length b.c1, Value.slice b.A2 X.si.length b.c2, Value.slice b.A3 X.pu.length b.c3, Value.slice b.A4 X.he.length b.c4] 34)) g L p A c l bx a X gw Wd w2.heap.size b X := by
  have l1 := blk_lt h.box
  have l2 := h.rw_.dice.lt
  have l3 := blk_lt h.row
  have l4 := hb.size
  refine ⟨h.below (below_alloc hb _), by omega, blk_new w2 _, fun V hV => hm.foot V (fun k hk hl => (hV k ⟨by omega, by omega, by omega⟩ (by simp only [World.size_alloc]; omega)).trans (Below.block (below_alloc (Below.refl _ _) _) k hl))⟩
end
end Go.Proofs.Ytejmjeanhlkenaa.HandA
