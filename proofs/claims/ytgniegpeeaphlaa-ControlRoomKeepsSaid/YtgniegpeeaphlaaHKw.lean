/- Dice, a disk in its variable, and records. -/
import Derived.Test.YtgniegpeeaphlaaHKp
namespace Go.Proofs.Ytgniegpeeaphlaa.HandA
open Go.RowKit Go.Proofs.Ytgniegpeeaphlaa.PR Go.Proofs.YtgniegpeeaphlaaW.PrintWords Go.Proofs.YtgniegpeeaphlaaW.PrintLast Go.Proofs.YtgniegpeeaphlaaW.PrintMore
set_option linter.unusedVariables false
set_option linter.unusedSimpArgs false
structure Kw (w W : World) (g : Nat) (L : List Int) (p : Int) (bx : Nat) (v1 v2 : Value) (L1 L2 : List Int) (vl : Value) (ls : List S32) : Prop where
  dice : IsS65 w W g L p
  bel : Below w.heap.size w W
  hb : w.heap.size ≤ bx
  box : W.heap[bx]? = some (.cells #[v1, v2] 49 (0, 0))
  r1 : Kd.R kb 5 W w.heap.size (fun _ => True) v1 L1
  r2 : Kd.R kb 5 W w.heap.size (fun _ => True) v2 L2
  rl : Kd.R k32 32 W w.heap.size (fun _ => True) vl ls
section
variable {w W W' : World} {g bx : Nat} {L L1 L2 M1 M2 : List Int} {p p' : Int} {v1 v2 vl u1 u2 : Value} {ls : List S32}
theorem Kw.below (h : Kw w W g L p bx v1 v2 L1 L2 vl ls) (hb : Below W.heap.size W W') : Kw w W' g L p bx v1 v2 L1 L2 vl ls := ⟨h.dice.below hb, below_step h.bel hb, h.hb, blk_below h.box hb, Kd.R_below h.r1 hb, Kd.R_below h.r2 hb, Kd.R_below h.rl hb⟩
theorem Kw.alloc (h : Kw w W g L p bx v1 v2 L1 L2 vl ls) (o : Obj) : Kw w (W.alloc o) g L p bx v1 v2 L1 L2 vl ls := h.below (below_alloc (Below.refl _ _) o)
theorem Kw.drewN (h : Kw w W g L p bx v1 v2 L1 L2 vl ls) (n : Nat) : Kw w (W.drewN n) g L p bx v1 v2 L1 L2 vl ls := h.below (pw_below_drewN (Below.refl _ _) n)
theorem Kw.drew (h : Kw w W g L p bx v1 v2 L1 L2 vl ls) : Kw w W.drew g L p bx v1 v2 L1 L2 vl ls := h.below (below_drew1 (Below.refl _ _))
theorem Kw.ne (h : Kw w W g L p bx v1 v2 L1 L2 vl ls) : g ≠ bx := h.dice.ne_blk h.box (by decide)
theorem Kw.throw (h : Kw w W g L p bx v1 v2 L1 L2 vl ls) (hi : IsS65 w W' g L p') (hb : Below w.heap.size w W') (hk : KeepBut W W' g none) : Kw w W' g L p' bx v1 v2 L1 L2 vl ls := by
  have mv : ∀ {α : Type} {d : Kd α} {e : Nat} {ok : Nat → Prop} {v : Value} {xs : List α}, d.R e W w.heap.size ok v xs → (∀ q, q ∈ e :: d.E → q ≠ 65) → d.R e W' w.heap.size ok v xs := fun hr ht =>
    Kd.R_mono (Kd.R_keep (h.dice.apart hr ht) hk (fun _ h => h.2)) (fun _ h => h.1)
  exact ⟨hi, hb, h.hb, (hk.2 bx (blk_lt h.box) (Ne.symm h.ne) (by simp)).trans h.box, mv h.r1 (by decide), mv h.r2 (by decide), mv h.rl (by decide)⟩
theorem Kw.put (h : Kw w W g L p bx v1 v2 L1 L2 vl ls) (hb : Below W.heap.size W W') (r1 : Kd.R kb 5 W' W.heap.size (fun _ => True) u1 M1) (r2 : Kd.R kb 5 W' W.heap.size (fun _ => True) u2 M2) :
    Kw w ((W'.setCell ⟨bx, 0, none⟩ u1).setCell ⟨bx, 1, none⟩ u2) g L p bx u1 u2 M1 M2 vl ls := by
  have h' := h.below hb
  exact ⟨(h'.dice.far h'.ne _).far h'.ne _, below_set (below_set h'.bel h.hb) h.hb, h.hb, set2 h'.box u1 u2, R_setT (R_setT (Kd.R_lower r1 h.bel.size) h'.box (by decide)) (blk_set h'.box 0 u1) (by decide), R_setT (R_setT (Kd.R_lower r2 h.bel.size) h'.box (by decide)) (blk_set h'.box 0 u1) (by decide), R_setT (R_setT h'.rl h'.box (by decide)) (blk_set h'.box 0 u1) (by decide)⟩
theorem Kw.appL {X : List S32} (h : Kw w W g L p bx v1 v2 L1 L2 vl ls) (ho : Kd.R k32 32 W' w.heap.size (fun _ => True) u1 X) (hb : Below w.heap.size w W') (hg : W.grownBy W' vl.ownBlock) : Kw w W' g L p bx v1 v2 L1 L2 u1 X :=
  ⟨h.dice.grown hg (h.dice.own_ne h.rl (by decide)), hb, h.hb, blk_grown h.box hg (Kd.R_ne h.rl h.box (by decide)), R_grownT h.r1 h.rl (by decide) hg, R_grownT h.r2 h.rl (by decide) hg, ho⟩
end
theorem Kw.first {w W : World} {g : Nat} {L : List Int} {p : Int} (hi : IsS65 w W g L p) (hb : Below w.heap.size w W) : Kw w (W.alloc (Obj.cells #[.slice none 0 0, .slice none 0 0] 49)) g L p W.heap.size (.slice none 0 0) (.slice none 0 0) [] [] (.slice none 0 0) [] :=
  ⟨hi.below (below_alloc (Below.refl _ _) _), below_alloc hb _, hb.size, blk_new W _, Kd.R_nil _ _ _ _ _, Kd.R_nil _ _ _ _ _, Kd.R_nil _ _ _ _ _⟩
/-- Write at a disk that takes the record. -/
theorem write_at (A1 : Option Addr) (c1 n1 : Nat) (l1 : List Int) (A2 : Option Addr) (c2 n2 : Nat) (l2 : List Int) (k s v t : Int) (base : Nat) (L2 : List Int) (w : World) (h1 : Kd.R kb 5 w base (fun _ => True) (.slice A1 n1 c1) l1) (h2 : Kd.R kb 5 w base (fun _ => True) (.slice A2 n2 c2) l2) (hz : l1.length + l2.length ≤ 60000) (hB : Byt l1) (hv : rvB k s v t = true) (hR : 32 * (readF l1).length = l1.length) (hL : l2 ++ bytesF k s v t = L2) :
    Calls Try.prog 25 #[.agg #[.slice A1 n1 c1, .slice A2 n2 c2], .agg #[.int .i64 k, .int .i64 s, .int .i64 v, .int .i64 t]] w fun e w' => ∃ A1 c1 A2 c2, e = .returned (.tuple #[.agg #[.slice A1 n1 c1, .slice A2 L2.length c2], .int .i64 0]) ∧
      Kd.R kb 5 w' w.heap.size (fun _ => True) (.slice A1 n1 c1) l1 ∧ Kd.R kb 5 w' w.heap.size (fun _ => True) (.slice A2 L2.length c2) L2 ∧ Below w.heap.size w w' := by
  obtain ⟨e1, q1, q2⟩ := Kd.R_reads' h1
  obtain ⟨e2, q3, q4⟩ := Kd.R_reads' h2
  subst e1 e2 hL
  have hf : writeF l1 l2 k s v t = (l2 ++ bytesF k s v t, 0) := by
    unfold writeF
    rw [if_pos hv, if_pos hR, if_neg (by omega)]
  refine (write_calls A1 c1 l1 A2 c2 l2 k s v t w q2 q1 q4 q3 (by omega) hB _ 0 hf).mono ?_
  rintro e w' ⟨v1, v2, rfl, -, -, h, hb⟩
  obtain ⟨r1, r2⟩ := h rfl
  obtain ⟨B1, d1, rfl⟩ := Kd.R_slice r1
  obtain ⟨B2, d2, rfl⟩ := Kd.R_slice r2
  exact ⟨B1, d1, B2, d2, rfl, Kd.R_mono r1 (fun _ _ => trivial), Kd.R_mono r2 (fun _ _ => trivial), hb⟩
theorem sync_at (A1 : Option Addr) (c1 n1 : Nat) (l1 : List Int) (A2 : Option Addr) (c2 n2 : Nat) (l2 : List Int) (base : Nat) (L2 : List Int) (w : World) (h1 : Kd.R kb 5 w base (fun _ => True) (.slice A1 n1 c1) l1) (h2 : Kd.R kb 5 w base (fun _ => True) (.slice A2 n2 c2) l2) (hz : l1.length + l2.length ≤ 60000) (hL : l1 ++ l2 = L2) :
    Calls Try.prog 26 #[.agg #[.slice A1 n1 c1, .slice A2 n2 c2]] w fun e w' => ∃ A c, e = .returned (.agg #[.slice A L2.length c, .slice none 0 0]) ∧ Kd.R kb 5 w' w.heap.size (fun _ => True) (.slice A L2.length c) L2 ∧ Below w.heap.size w w' := by
  obtain ⟨e1, q1, q2⟩ := Kd.R_reads' h1
  obtain ⟨e2, q3, q4⟩ := Kd.R_reads' h2
  subst e1 e2 hL
  refine (sync_calls A1 c1 l1 A2 c2 l2 w q2 q1 q4 q3 (by omega)).mono ?_
  rintro e w' ⟨v, rfl, hr, hb⟩
  obtain ⟨B1, d1, rfl⟩ := Kd.R_slice hr
  exact ⟨B1, d1, rfl, hr, hb⟩
theorem crash_at (A1 : Option Addr) (c1 n1 : Nat) (l1 : List Int) (A2 : Option Addr) (c2 n2 : Nat) (l2 : List Int) (k br : Int) (base : Nat) (L2 : List Int) (w : World) (h1 : Kd.R kb 5 w base (fun _ => True) (.slice A1 n1 c1) l1) (h2 : Kd.R kb 5 w base (fun _ => True) (.slice A2 n2 c2) l2) (hz : l1.length + l2.length ≤ 60000) (hL : l1 ++ restF l2 k br = L2) :
    Calls Try.prog 27 #[.agg #[.slice A1 n1 c1, .slice A2 n2 c2], .int .i64 k, .int .u8 br] w fun e w' => ∃ A c, e = .returned (.agg #[.slice A L2.length c, .slice none 0 0]) ∧ Kd.R kb 5 w' w.heap.size (fun _ => True) (.slice A L2.length c) L2 ∧ Below w.heap.size w w' := by
  obtain ⟨e1, q1, q2⟩ := Kd.R_reads' h1
  obtain ⟨e2, q3, q4⟩ := Kd.R_reads' h2
  subst e1 e2 hL
  have := crash_calls A1 c1 l1 A2 c2 l2 k br w q2 q1 q4 q3 (by omega)
  rw [crash_eq] at this
  refine this.mono ?_
  rintro e w' ⟨v, rfl, hr, hb⟩
  obtain ⟨B1, d1, rfl⟩ := Kd.R_slice hr
  exact ⟨B1, d1, rfl, hr, hb⟩
theorem repair_at (A1 : Option Addr) (c1 n1 : Nat) (l1 : List Int) (base RN : Nat) (T : List Int) (w : World) (h1 : Kd.R kb 5 w base (fun _ => True) (.slice A1 n1 c1) l1) (hz : l1.length ≤ 60000) (hB : Byt l1) (hRN : (readF l1).length = RN) (hT : l1.take (32 * RN) = T) (hTl : T.length = 32 * RN) :
    Calls Try.prog 28 #[.agg #[.slice A1 n1 c1, .slice none 0 0]] w fun e w' => ∃ Ac cc, e = .returned (.agg #[.slice Ac T.length cc, .slice none 0 0]) ∧ Kd.R kb 5 w' w.heap.size (fun _ => True) (.slice Ac T.length cc) T ∧ Below w.heap.size w w' := by
  obtain ⟨e1, q1, q2⟩ := Kd.R_reads' h1
  rw [hTl]
  subst e1 hT
  exact repair_calls A1 c1 l1 _ w q2 q1 (by omega) hB RN hRN ⟨_, _, _, rfl⟩
theorem readR_at (A : Option Addr) (c n base : Nat) (b : List Int) (r : List S32) (w : World) (h1 : Kd.R kb 5 w base (fun _ => True) (.slice A n c) b) (hB : Byt b) (hz : b.length ≤ 60000) (er : readF b = r) :
    Calls Try.prog 14 #[.slice A n c] w fun e w' => ∃ A1 c1, e = .returned (.tuple #[.slice A1 r.length c1, .int .i64 (32 * r.length : Nat)]) ∧ Kd.R k32 32 w' w.heap.size (fun _ => True) (.slice A1 r.length c1) r ∧ Below w.heap.size w w' := by
  obtain ⟨e1, q1, q2⟩ := Kd.R_reads' h1
  exact read_at A c n b r w q2 (by omega) hB (by omega) e1.symm er
end Go.Proofs.Ytgniegpeeaphlaa.HandA
