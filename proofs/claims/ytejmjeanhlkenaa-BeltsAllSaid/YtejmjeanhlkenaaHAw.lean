/- The law over belts that are started one after the other, walked. -/
import Derived.Test.YtejmjeanhlkenaaCMk
import Derived.Test.YtejmjeanhlkenaaCDi
import Derived.Test.YtejmjeanhlkenaaCP1
import Derived.Test.YtejmjeanhlkenaaHPA
import Derived.Test.YtejmjeanhlkenaaHAs
namespace Go.Proofs.Ytejmjeanhlkenaa.HandA
open Go.RowKit Go.Proofs.Ytejmjeanhlkenaa.PB Go.Proofs.YtejmjeanhlkenaaW.PrintWords Go.Proofs.YtejmjeanhlkenaaW.PrintLast Go.Proofs.YtejmjeanhlkenaaW.PrintMore
set_option linter.unusedVariables false
set_option linter.unusedSimpArgs false
/-- Dice, and belts that grow. -/
structure Rw (w W : World) (g : Nat) (L : List Int) (p : Int) (v : Value) (l : List S31) : Prop where
  dice : IsS53 w W g L p
  bel : Below w.heap.size w W
  row : Kd.R k31 31 W w.heap.size (fun _ => True) v l
section
variable {w W W' : World} {g : Nat} {L : List Int} {p p' : Int} {v : Value} {l : List S31}
theorem Rw.below (h : Rw w W g L p v l) (hb : Below W.heap.size W W') : Rw w W' g L p v l := ⟨h.dice.below hb, below_step h.bel hb, Kd.R_below h.row hb⟩
theorem Rw.alloc (h : Rw w W g L p v l) (o : Obj) : Rw w (W.alloc o) g L p v l := h.below (below_alloc (Below.refl _ _) o)
theorem Rw.drewN (h : Rw w W g L p v l) (n : Nat) : Rw w (W.drewN n) g L p v l := h.below (pw_below_drewN (Below.refl _ _) n)
theorem Rw.drew (h : Rw w W g L p v l) : Rw w W.drew g L p v l := h.below (below_drew1 (Below.refl _ _))
theorem Rw.throw (h : Rw w W g L p v l) (hi : IsS53 w W' g L p') (hb : Below w.heap.size w W') (hk : KeepBut W W' g none) : Rw w W' g L p' v l :=
  ⟨hi, hb, Kd.R_mono (Kd.R_keep (h.dice.apart h.row (by decide)) hk (fun _ h => h.2)) (fun _ h => h.1)⟩
end
/-- Dice, belts, and a line in its variable: its rows are not the variable's, nor the dice's. -/
structure Lw (w W : World) (g : Nat) (L : List Int) (p : Int) (A : Option Addr) (c : Nat) (l : List S31) (bx : Nat) (a : La) (X : Ln) : Prop where
  rw_ : Rw w W g L p (.slice A l.length c) l
  hb : w.heap.size ≤ bx
  box : W.heap[bx]? = some (.cells #[.int .i64 X.tm, .slice a.A1 X.st.length a.c1, .slice a.A2 X.si.length a.c2, .slice a.A3 X.pu.length a.c3, .slice a.A4 X.he.length a.c4] 34 (0, 0))
  foot : Foot (fun V => LC V a X) W (fun k => k ≠ bx ∧ k ≠ g)
section
variable {w W W' : World} {g : Nat} {L : List Int} {p p' : Int} {A : Option Addr} {c bx : Nat} {l : List S31} {a a' : La} {X Y : Ln}
theorem Lw.lc (h : Lw w W g L p A c l bx a X) : LC W a X := Foot.now h.foot
theorem Lw.ne (h : Lw w W g L p A c l bx a X) : g ≠ bx := h.rw_.dice.ne_blk h.box (by decide)
theorem Lw.read (h : Lw w W g L p A c l bx a X) : Kd.C k31 W A l.length l ∧ l.length ≤ c := ⟨(Kd.R_reads' h.rw_.row).2.2, (Kd.R_reads' h.rw_.row).2.1⟩
theorem Lw.below (h : Lw w W g L p A c l bx a X) (hb : Below W.heap.size W W') : Lw w W' g L p A c l bx a X :=
  ⟨h.rw_.below hb, h.hb, blk_below h.box hb, Foot.step h.foot (fun k _ hl => hb.block k hl)⟩
theorem Lw.alloc (h : Lw w W g L p A c l bx a X) (o : Obj) : Lw w (W.alloc o) g L p A c l bx a X := h.below (below_alloc (Below.refl _ _) o)
theorem Lw.drew (h : Lw w W g L p A c l bx a X) : Lw w W.drew g L p A c l bx a X := h.below (below_drew1 (Below.refl _ _))
theorem Lw.drewN (h : Lw w W g L p A c l bx a X) (n : Nat) : Lw w (W.drewN n) g L p A c l bx a X := h.below (pw_below_drewN (Below.refl _ _) n)
theorem Lw.throw (h : Lw w W g L p A c l bx a X) (hi : IsS53 w W' g L p') (hb : Below w.heap.size w W') (hk : KeepBut W W' g none) : Lw w W' g L p' A c l bx a X :=
  ⟨h.rw_.throw hi hb hk, h.hb, (hk.2 bx (blk_lt h.box) (Ne.symm h.ne) (by simp)).trans h.box, Foot.step h.foot (fun k hok hl => hk.2 k hl hok.2 (by simp))⟩
/-- What a function gives, stored where the line lay. -/
theorem Lw.next (h : Lw w W g L p A c l bx a X) (hg : (a' = a ∧ Y = X) ∨ Foot (fun V => LC V a' Y) W' (fun k => W.heap.size ≤ k)) (hb : Below W.heap.size W W') :
    Lw w (((((W'.setCell ⟨bx, 0, none⟩ (.int .i64 Y.tm)).setCell ⟨bx, 1, none⟩ (.slice a'.A1 Y.st.length a'.c1)).setCell ⟨bx, 2, none⟩ (.slice a'.A2 Y.si.length a'.c2)).setCell ⟨bx, 3, none⟩ (.slice a'.A3 Y.pu.length a'.c3)).setCell ⟨bx, 4, none⟩ (.slice a'.A4 Y.he.length a'.c4)) g L p A c l bx a' Y := by
  have h' := h.below hb
  have SS := same5 W' bx (.int .i64 Y.tm) (.slice a'.A1 Y.st.length a'.c1) (.slice a'.A2 Y.si.length a'.c2) (.slice a'.A3 Y.pu.length a'.c3) (.slice a'.A4 Y.he.length a'.c4)
  have hf : Foot (fun V => LC V a' Y) W' (fun k => k ≠ bx ∧ k ≠ g) := by
    rcases hg with ⟨rfl, rfl⟩ | hg
    · exact h'.foot
    · have l1 := blk_lt h.box
      have l2 := h.rw_.dice.lt
      exact fun V hV => hg V (fun k hk hl => hV k ⟨by omega, by omega⟩ hl)
  refine ⟨⟨((((h'.rw_.dice.far h'.ne _).far h'.ne _).far h'.ne _).far h'.ne _).far h'.ne _, below_same h'.rw_.bel SS h.hb, R_sameT h'.rw_.row SS h'.box (by decide)⟩, h.hb, set5 h'.box _ _ _ _ _, ?_⟩
  exact fun V hV => hf V (fun k hk hl => (hV k hk (by rw [SS.size]; exact hl)).trans (SS.block k hk.1))
theorem Lw.first {w2 w3 : World} (h : Rw w w2 g L p (.slice A l.length c) l) (hb : Below w2.heap.size w2 w3) (hm : Made w3 w2.heap.size (.slice a.A1 X.st.length a.c1) (.slice a.A2 X.si.length a.c2) (.slice a.A3 X.pu.length a.c3) (.slice a.A4 X.he.length a.c4) X) :
    Lw w (w3.alloc (Obj.cells #[Value.int IntKind.i64 X.tm, Value.slice a.A1 X.st.length a.c1, Value.slice a.A2 X.si.length a.c2, Value.slice a.A3 X.pu.length a.c3, Value.slice a.A4 X.he.length a.c4] 34)) g L p A c l w3.heap.size a X := by
  have hlt := h.dice.lt
  refine ⟨h.below (below_alloc hb _), (by have := h.bel.size; have := hb.size; omega), blk_new w3 _, ?_⟩
  exact fun V hV => hm.foot V (fun k hk hl => (hV k ⟨by omega, by omega⟩ (by simp only [World.size_alloc]; omega)).trans (Below.block (below_alloc (Below.refl _ _) _) k hl))
end
/-- Two lines in their variables, and the belts, for reading alone. -/
structure Fin (w W : World) (A : Option Addr) (c : Nat) (l : List S31) (bx bY : Nat) (a b : La) (X Y : Ln) : Prop where
  bel : Below w.heap.size w W
  row : Kd.C k31 W A l.length l
  cap : l.length ≤ c
  b1 : W.heap[bx]? = some (.cells #[.int .i64 X.tm, .slice a.A1 X.st.length a.c1, .slice a.A2 X.si.length a.c2, .slice a.A3 X.pu.length a.c3, .slice a.A4 X.he.length a.c4] 34 (0, 0))
  b2 : W.heap[bY]? = some (.cells #[.int .i64 Y.tm, .slice b.A1 Y.st.length b.c1, .slice b.A2 Y.si.length b.c2, .slice b.A3 Y.pu.length b.c3, .slice b.A4 Y.he.length b.c4] 34 (0, 0))
  l1 : LC W a X
  l2 : LC W b Y
theorem Fin.below {w W W' : World} {A : Option Addr} {c bx bY : Nat} {l : List S31} {a b : La} {X Y : Ln} (h : Fin w W A c l bx bY a b X Y) (hb : Below W.heap.size W W') : Fin w W' A c l bx bY a b X Y :=
  ⟨below_step h.bel hb, Kd.C_below h.row hb, h.cap, blk_below h.b1 hb, blk_below h.b2 hb, h.l1.below hb, h.l2.below hb⟩
theorem Fin.drewN {w W : World} {A : Option Addr} {c bx bY : Nat} {l : List S31} {a b : La} {X Y : Ln} (h : Fin w W A c l bx bY a b X Y) (n : Nat) : Fin w (W.drewN n) A c l bx bY a b X Y := h.below (pw_below_drewN (Below.refl _ _) n)
theorem Fin.drew {w W : World} {A : Option Addr} {c bx bY : Nat} {l : List S31} {a b : La} {X Y : Ln} (h : Fin w W A c l bx bY a b X Y) : Fin w W.drew A c l bx bY a b X Y := h.below (below_drew1 (Below.refl _ _))
theorem Fin.alloc {w W : World} {A : Option Addr} {c bx bY : Nat} {l : List S31} {a b : La} {X Y : Ln} (h : Fin w W A c l bx bY a b X Y) (o : Obj) : Fin w (W.alloc o) A c l bx bY a b X Y := h.below (below_alloc (Below.refl _ _) o)
theorem Fin.first {w W W' : World} {g : Nat} {L : List Int} {p : Int} {A : Option Addr} {c bx : Nat} {l : List S31} {a b : La} {X Y : Ln} (h : Lw w W g L p A c l bx a X) (hb : Below W.heap.size W W') (hy : LC W' b Y) :
    Fin w (W'.alloc (Obj.cells #[Value.int IntKind.i64 Y.tm, Value.slice b.A1 Y.st.length b.c1, Value.slice b.A2 Y.si.length b.c2, Value.slice b.A3 Y.pu.length b.c3, Value.slice b.A4 Y.he.length b.c4] 34)) A c l bx W'.heap.size a b X Y := by
  have h' := (h.below hb).alloc (Obj.cells #[Value.int IntKind.i64 Y.tm, Value.slice b.A1 Y.st.length b.c1, Value.slice b.A2 Y.si.length b.c2, Value.slice b.A3 Y.pu.length b.c3, Value.slice b.A4 Y.he.length b.c4] 34)
  exact ⟨h'.rw_.bel, h'.read.1, h'.read.2, h'.box, blk_new W' _, h'.lc, hy.below (below_alloc (Below.refl _ _) _)⟩

set_option maxHeartbeats 16000000 in
set_option maxRecDepth 100000 in
theorem all_calls (L : List Int) (A0 : Option Addr) (c0 : Nat) (w : World) (hr0 : Kd.C (Kd.int .i64) w A0 L.length L) (hc0 : L.length ≤ c0) :
    Calls Try.prog 3 #[.slice A0 L.length c0] w fun e w' => e = .returned (.bool true) ∧ Below w.heap.size w w' := by
  have HR0 := Aside0.mk hr0
  have HC0 := Aside0.mk hc0
  have hu34 := Try.underlying34
  have hu31 := Try.underlying31
  clear hr0 hc0
  by_cases hli : ¬ (L.length : Int) ≤ 400
  · have hlf : made_Light.f L = some false := by unfold made_Light.f; rw [decide_eq_false hli]
    go_enter Try.func3, Try.ntmps3
    go_wp2_with (first | (go_at_call 7; (with_reducible refine (made_Light.calls A0 c0 L false _ HR0.out HC0.out hlf).mono ?_); rintro e w0 ⟨rfl, ⟨nq0, rfl⟩⟩) | (go_at_call 8; (with_reducible refine (awake_calls _).mono ?_); rintro e w1 ⟨rfl, hb1⟩; have HB1 := Aside0.mk (below_step (pw_below_drewN (Below.refl w.heap.size w) nq0) hb1); clear hb1))
    go_ret
    exact ⟨rfl, (by repeat (first | exact HB1.out | apply below_drew1 | apply pw_below_drewN))⟩
  rw [Decidable.not_not] at hli
  have hlt : made_Light.f L = some true := by unfold made_Light.f; rw [decide_eq_true hli]
  obtain ⟨n0, p1, hn0, n0a, n0b, hd1⟩ := next_ok (DiceOk.zero hli) 6 (by omega) (by omega)
  have hw1 : wrap64 (1 + n0) = 1 + n0 := by unfold wrap64; omega
  obtain ⟨n1, hn1⟩ : ∃ q : Nat, 1 + n0 = (q : Int) := ⟨(1 + n0).toNat, by omega⟩
  have HN0 := Aside0.mk hn0
  have HD1 := Aside0.mk hd1
  clear hn0 hd1 hli
  go_enter Try.func3, Try.ntmps3
  go_wp2_with (first | (go_at_call 7; (with_reducible refine (made_Light.calls A0 c0 L true _ HR0.out HC0.out hlt).mono ?_); rintro e w0 ⟨rfl, ⟨nq0, rfl⟩⟩) | (go_at_call 9; (with_reducible refine (made_Roll.calls A0 c0 L L 0 w _ (pw_below_drewN (Below.refl w.heap.size w) nq0) HR0.out HC0.out rfl).mono ?_); rintro e w1 ⟨g, rfl, hi, hb, -⟩; have M1 := Aside0.mk (show Rw w w1 g L 0 (.slice none 0 0) [] from ⟨hi, hb, Kd.R_nil _ _ _ _ _⟩); clear hi hb) | (go_at_call 10; (with_reducible refine (made_Dice_Next.calls g L 0 6 n0 p1 w _ (Rw.dice (by repeat (first | exact M1.out | apply Rw.alloc | apply Rw.drewN | apply Rw.drew))) (Rw.bel (by repeat (first | exact M1.out | apply Rw.alloc | apply Rw.drewN | apply Rw.drew))) HN0.out).mono ?_); rintro e w2 ⟨rfl, hi, hb, hk⟩; have M2 := Aside0.mk (Rw.throw (by repeat (first | exact M1.out | apply Rw.alloc | apply Rw.drewN | apply Rw.drew)) hi hb hk); clear hi hb hk))
  go_loopg [4, 5] 7 (fun m v4 v5 w' => ∃ (ls : List S31) (n : Nat) (p : Int), v5 = .int .i64 n ∧ n ≤ m ∧ n + ls.length ≤ 6 ∧ 1 ≤ n + ls.length ∧ Aside0 (Grown ls) ∧ Aside0 (DiceOk L p) ∧ Aside0 (Rw w w' g L p v4 ls))
  case atStart => exact ⟨[], n1, p1, (by rw [← hn1, ← hw1]), (by omega), (by simp; omega), (by simp; omega), ⟨Grown.nil⟩, HD1, M2⟩
  case round =>
    clear M2
    obtain ⟨ls, n, p, rfl, hm, h6, h1, HG, HD, M⟩ := hrel
    obtain ⟨A, c, rfl⟩ := Kd.R_slice M.out.row
    by_cases hn : 0 < n
    · obtain ⟨m, rfl⟩ : ∃ q, gk = q + 1 := ⟨gk - 1, by omega⟩
      have hn2 : (0 : Int) < (n : Int) := by omega
      obtain ⟨q1, p3, hq1, qa, qb, hd3⟩ := next_ok HD.out ((ls.length : Int) + 1) (by omega) (by omega)
      obtain ⟨q2, p4, hq2, hmem, hd4⟩ := of_ok hd3 [5, 0, 20] (by simp) (by simp)
      have hq2r : 0 ≤ q2 ∧ q2 ≤ 20 := by simp at hmem; omega
      have hG2 : Grown (ls ++ [⟨q1 - 1, q2⟩]) := HG.out.push (show -1 ≤ q1 - 1 ∧ q1 - 1 < (ls.length : Int) by omega) hq2r
      have Q1 := Aside0.mk hq1
      have Q2 := Aside0.mk hq2
      have D4 := Aside0.mk hd4
      have G2 := Aside0.mk hG2
      clear hq1 hq2 hd3 hd4 hG2 hmem
      go_wp2_with (first | (go_at_call 10; (with_reducible refine (made_Dice_Next.calls g L p ((ls.length : Int) + 1) q1 p3 w _ (Rw.dice (by repeat (first | exact M.out | apply Rw.alloc | apply Rw.drewN | apply Rw.drew))) (Rw.bel (by repeat (first | exact M.out | apply Rw.alloc | apply Rw.drewN | apply Rw.drew))) Q1.out).mono ?_); rintro e w5 ⟨rfl, hi, hb, hk⟩; have M5 := Aside0.mk (Rw.throw (by repeat (first | exact M.out | apply Rw.alloc | apply Rw.drewN | apply Rw.drew)) hi hb hk); clear hi hb hk) | (go_at_call 11; (refine (made_Dice_Of.calls g L p3 (some ⟨w5.heap.size, 0, none⟩) 3 [5, 0, 20] q2 p4 w _ (Rw.dice (by repeat (first | exact M5.out | apply Rw.alloc | apply Rw.drewN | apply Rw.drew))) (Rw.bel (by repeat (first | exact M5.out | apply Rw.alloc | apply Rw.drewN | apply Rw.drew))) (row_read (xs := [5, 0, 20]) (blk_new _ _) (by decide)) (by decide) (by intro ad h _; cases h; exact Ne.symm (Nat.ne_of_lt M5.out.dice.lt)) Q2.out).mono ?_); rintro e w7 ⟨rfl, hi, hb, hk⟩; have M7 := Aside0.mk (Rw.throw (by repeat (first | exact M5.out | apply Rw.alloc | apply Rw.drewN | apply Rw.drew)) hi hb hk); clear hi hb hk) | ((with_reducible refine gate_builtin (b := .append) (xs := #[.tmp 27, .tmp 38]) rfl ?_); at_builtin; refine Kd.R_append k31 w.heap.size rfl (.tmp 27) (.tmp 38) 27 31 (.agg #[(.int .i64 0), (.int .i64 0)]) 16 rfl Try.underlying27 info31 rfl (by decide) (by omega) (.slice A ls.length c) ls (⟨q1 - 1, q2⟩ : S31) [.int .i64 (q1 - 1), .int .i64 q2] (fun _ => True) (fun _ => False) rfl rfl ?aP (fun _ hk => hk.elim) ?aF ?aO (Below.refl _ _) ?aS ?aL ?_; (case aP => exact k31_mkM _ _ _ (⟨q1 - 1, q2⟩ : S31)); (case aF => exact (fun _ _ => trivial)); (case aO => exact Rw.row (by repeat (first | exact M7.out | apply Rw.alloc | apply Rw.drewN | apply Rw.drew))); (case aS => exact (Rw.bel (by repeat (first | exact M7.out | apply Rw.alloc | apply Rw.drewN | apply Rw.drew))).size); (case aL => omega); intro v8 w8 ho hb hg hat; have M8 := Aside0.mk (show Rw w w8 g L p4 v8 (ls ++ [⟨q1 - 1, q2⟩]) from ⟨IsS53.grown (Rw.dice (by repeat (first | exact M7.out | apply Rw.alloc | apply Rw.drewN | apply Rw.drew))) hg (IsS53.own_ne (Rw.dice (by repeat (first | exact M7.out | apply Rw.alloc | apply Rw.drewN | apply Rw.drew))) (Rw.row (by repeat (first | exact M7.out | apply Rw.alloc | apply Rw.drewN | apply Rw.drew))) (by decide)), below_weaken (Rw.bel (by repeat (first | exact M7.out | apply Rw.alloc | apply Rw.drewN | apply Rw.drew))) (Nat.le_refl _) hb, ho⟩); clear ho hb hg hat))
      go_roundg m
      case measure => omega
      case rel => exact ⟨_, n - 1, p4, (by first | go_num | (congr 1; first | omega | (unfold wrap64; omega))), (by omega), (by simp; omega), (by simp; omega), G2, D4, ⟨by repeat (first | exact M8.out | apply Rw.alloc | apply Rw.drewN | apply Rw.drew)⟩⟩
    · have hn0 : ¬ (0 : Int) < (n : Int) := by omega
      have hl1 : 1 ≤ ls.length := by omega
      have hl6 : ls.length ≤ 6 := by omega
      have hsnd : Snd ls := HG.out.snd hl1 (by omega)
      have HMK := Aside0.mk (show makeG ls = (zeroLn ls.length, 0) by unfold makeG; rw [if_pos hsnd])
      have HFIT := Aside0.mk (show Fit ls.length by unfold Fit; omega)
      have HZG := Aside0.mk (goes_zero hsnd)
      obtain ⟨X0, hX0⟩ : ∃ X0, zeroLn ls.length = X0 := ⟨_, rfl⟩
      rw [hX0] at HMK HZG
      clear hX0
      go_upto_region 10 with (go_at_call 12; (with_reducible refine (make_calls ls A c _ (Kd.R_reads' (Rw.row (by repeat (first | exact M.out | apply Rw.alloc | apply Rw.drewN | apply Rw.drew)))).2.2 (Kd.R_reads' M.out.row).2.1 HFIT.out).mono ?_); rw [HMK.out]; rintro e w11 ⟨v1, v2, v3, v4, rfl, hmm, hb⟩; obtain ⟨a0, rfl, rfl, rfl, rfl, hla⟩ := hmm.form; have N1 := Aside0.mk (Lw.first (by repeat (first | exact M.out | apply Rw.alloc | apply Rw.drewN | apply Rw.drew)) hb hmm); clear hmm hb hla)
      generalize w11.alloc (Obj.cells #[Value.int IntKind.i64 X0.tm, Value.slice a0.A1 X0.st.length a0.c1, Value.slice a0.A2 X0.si.length a0.c2, Value.slice a0.A3 X0.pu.length a0.c3, Value.slice a0.A4 X0.he.length a0.c4] 34) = W11 at N1 ⊢
      generalize w11.heap.size = bx at N1 ⊢
      go_wp2_with fail
      go_loopg [7, 8] 7 (fun m v7 v8 w' => ∃ (i : Nat) (X : Ln) (a : La), v7 = .int .i64 0 ∧ v8 = .int .i64 i ∧ i + m = ls.length + 1 + (6 - ls.length) ∧ i ≤ ls.length ∧ Aside0 (Lw w w' g L p A c ls bx a X) ∧ Aside0 (Goes ls i X))
      case atStart => exact ⟨0, X0, a0, rfl, rfl, (by omega), (by omega), N1, HZG⟩
      case round =>
        clear N1
        obtain ⟨i, X, a, rfl, rfl, him, hil, N, HGO⟩ := hrel
        have ⟨xc0, _, xc1, _, xc2, _, xc3, _, xc4, _⟩ := box_open N.out.box
        by_cases hi : i < ls.length
        · obtain ⟨m, rfl⟩ : ∃ q, gk = q + 1 := ⟨gk - 1, by omega⟩
          have hi2 : (i : Int) < (ls.length : Int) := by omega
          have HST := Aside0.mk (goes_start HG.out HGO.out hi)
          obtain ⟨hwt, hgz⟩ := goes_wait HG.out HGO.out hi (by omega)
          have hwr : wrap64 ((begun X i).tm + warn ls i) = X.tm + warn ls i := by have h1 := HGO.out.tm; have h2 := HGO.out.vl.tm; have h3 := (HG.out i hi).2; show wrap64 (X.tm + warn ls i) = _; unfold wrap64; omega
          rw [← hwr] at hwt hgz
          obtain ⟨Y, hY⟩ : ∃ Y, begun X i = Y := ⟨_, rfl⟩
          rw [hY] at HST hwt hgz
          clear hY hwr
          obtain ⟨Z, hZ⟩ : ∃ Z, waitN ls (wrap64 (Y.tm + warn ls i)) ls.length Y = Z := ⟨_, rfl⟩
          rw [hZ] at hwt hgz
          clear hZ
          have HWT := Aside0.mk hwt
          have HGZ := Aside0.mk hgz
          clear hwt hgz
          go_upto_region 14 with (go_loud (go_at_call 13; (with_reducible refine (start_calls ls A c X a (i : Int) _ (Lw.read (by repeat (first | exact N.out | apply Lw.alloc | apply Lw.drewN | apply Lw.drew))).1 N.out.read.2 HFIT.out (Lw.lc (by repeat (first | exact N.out | apply Lw.alloc | apply Lw.drewN | apply Lw.drew)))).mono ?_); rw [HST.out]; rintro e w13 ⟨a2, rfl, hg, -, hb⟩; obtain ⟨o0, f0, o1, f1, o2, f2, o3, f3, o4, f4⟩ := box_open (blk_below N.out.box hb); have NX := Aside0.mk (N.out.next hg hb); clear hg hb))
          generalize (World.setCell (World.setCell (World.setCell (World.setCell (World.setCell w13 ⟨bx, 0, none⟩ (Value.int IntKind.i64 Y.tm)) ⟨bx, 1, none⟩ (Value.slice a2.A1 Y.st.length a2.c1)) ⟨bx, 2, none⟩ (Value.slice a2.A2 Y.si.length a2.c2)) ⟨bx, 3, none⟩ (Value.slice a2.A3 Y.pu.length a2.c3)) ⟨bx, 4, none⟩ (Value.slice a2.A4 Y.he.length a2.c4)) = W14 at NX ⊢
          obtain ⟨ad, e', d0, d1⟩ := at_T31 (Lw.read NX.out).1 (i : Int) (by omega) (by omega)
          cases e'
          have DW : W14.cell? ⟨(ad.add (i * 2)).block, (ad.add (i * 2)).off + 1, none⟩ = some (.int .i64 (warn ls i)) := by have d2 := d1; simp only [Int.toNat_natCast] at d2; exact d2
          clear d0 d1
          obtain ⟨y0, -, y1, -, y2, -, y3, -, y4, -⟩ := box_open NX.out.box
          go_upto_region 16 with fail
          have N2 := NX.out.drew
          refine start_ (n := 16) (S := (fun w' => w'.cell? ⟨bx, 0, none⟩ = some (Value.int IntKind.i64 Y.tm) ∧ w'.cell? ⟨bx, 1, none⟩ = some (Value.slice a2.A1 Y.st.length a2.c1) ∧ w'.cell? ⟨bx, 2, none⟩ = some (Value.slice a2.A2 Y.si.length a2.c2) ∧ w'.cell? ⟨bx, 3, none⟩ = some (Value.slice a2.A3 Y.pu.length a2.c3) ∧ w'.cell? ⟨bx, 4, none⟩ = some (Value.slice a2.A4 Y.he.length a2.c4) ∧ w'.cell? ⟨(ad.add (i * 2)).block, (ad.add (i * 2)).off + 1, none⟩ = some (.int .i64 (warn ls i)))) (ds := [14]) #[false, false, false, false, false, false, false, false, false, false, false, false, false, false, false, false] (by kernel_rfl) rfl rfl ⟨y0, y1, y2, y3, y4, DW⟩ (fun hHeld => ?_)
          refine pure_ (i := 0) (N := some 65) (v := ?_) (a' := ?_) #[true, false, false, false, false, false, false, false, false, false, false, false, false, false, false, false] rfl rfl (by kernel_rfl) (fun _ _ _ h => h) (Or.inl ⟨by rfl, ?_⟩) ?_ ?_
          rotate_left; · intro w'; go_simp; with_reducible rfl
          rotate_left; · simp only [Act.put, List.setIfInBounds_toArray, List.set_cons_zero, List.set_cons_succ, i64_w, i32_w]; rfl
          refine pure_ (i := 2) (N := some 67) (v := ?_) (a' := ?_) #[true, false, true, false, false, false, false, false, false, false, false, false, false, false, false, false] rfl rfl (by kernel_rfl) (fun _ _ _ h => h) (Or.inl ⟨by rfl, ?_⟩) ?_ ?_
          rotate_left; · intro w'; go_simp; with_reducible rfl
          rotate_left; · simp only [Act.put, List.setIfInBounds_toArray, List.set_cons_zero, List.set_cons_succ, i64_w, i32_w]; rfl
          refine pure_ (i := 4) (N := some 69) (v := ?_) (a' := ?_) #[true, false, true, false, true, false, false, false, false, false, false, false, false, false, false, false] rfl rfl (by kernel_rfl) (fun _ _ _ h => h) (Or.inl ⟨by rfl, ?_⟩) ?_ ?_
          rotate_left; · intro w'; go_simp; with_reducible rfl
          rotate_left; · simp only [Act.put, List.setIfInBounds_toArray, List.set_cons_zero, List.set_cons_succ, i64_w, i32_w]; rfl
          refine pure_ (i := 5) (N := some 70) (v := ?_) (a' := ?_) #[true, false, true, false, true, true, false, false, false, false, false, false, false, false, false, false] rfl rfl (by kernel_rfl) (fun _ _ _ h => h) (Or.inl ⟨by rfl, ?_⟩) ?_ ?_
          rotate_left; · intro w'; go_simp; with_reducible rfl
          rotate_left; · simp only [Act.put, List.setIfInBounds_toArray, List.set_cons_zero, List.set_cons_succ, i64_w, i32_w]; rfl
          refine pure_ (i := 6) (N := some 71) (v := ?_) (a' := ?_) #[true, false, true, false, true, true, true, false, false, false, false, false, false, false, false, false] rfl rfl (by kernel_rfl) (fun _ _ _ h => h) (Or.inl ⟨by rfl, ?_⟩) ?_ ?_
          rotate_left; · intro w'; go_simp; with_reducible rfl
          rotate_left; · simp only [Act.put, List.setIfInBounds_toArray, List.set_cons_zero, List.set_cons_succ, i64_w, i32_w]; rfl
          refine pure_ (i := 7) (N := some 72) (v := ?_) (a' := ?_) #[true, false, true, false, true, true, true, true, false, false, false, false, false, false, false, false] rfl rfl (by kernel_rfl) (fun _ _ _ h => h) (Or.inl ⟨by rfl, ?_⟩) ?_ ?_
          rotate_left; · intro w'; go_simp; with_reducible rfl
          rotate_left; · simp only [Act.put, List.setIfInBounds_toArray, List.set_cons_zero, List.set_cons_succ, i64_w, i32_w]; rfl
          refine take_ (i := 1) (N := some 66) (v := ?_) (a' := ?_) #[true, true, true, false, true, true, true, true, false, false, false, false, false, false, false, false] rfl rfl (by kernel_rfl) (fun _ _ _ h => h) (Or.inl ⟨by rfl, ?_⟩) hHeld ?_ ?_
          rotate_left; · rintro w' ⟨s0, s1, s2, s3, s4, s5⟩; go_simp; with_reducible rfl
          rotate_left; · simp only [Act.put, List.setIfInBounds_toArray, List.set_cons_zero, List.set_cons_succ, i64_w, i32_w]; rfl
          refine take_ (i := 3) (N := some 68) (v := ?_) (a' := ?_) #[true, true, true, true, true, true, true, true, false, false, false, false, false, false, false, false] rfl rfl (by kernel_rfl) (fun _ _ _ h => h) (Or.inl ⟨by rfl, ?_⟩) hHeld ?_ ?_
          rotate_left; · rintro w' ⟨s0, s1, s2, s3, s4, s5⟩; go_simp; with_reducible rfl
          rotate_left; · simp only [Act.put, List.setIfInBounds_toArray, List.set_cons_zero, List.set_cons_succ, i64_w, i32_w]; rfl
          refine take_ (i := 8) (N := some 73) (v := ?_) (a' := ?_) #[true, true, true, true, true, true, true, true, true, false, false, false, false, false, false, false] rfl rfl (by kernel_rfl) (fun _ _ _ h => h) (Or.inl ⟨by rfl, ?_⟩) hHeld ?_ ?_
          rotate_left; · rintro w' ⟨s0, s1, s2, s3, s4, s5⟩; go_simp; with_reducible rfl
          rotate_left; · simp only [Act.put, List.setIfInBounds_toArray, List.set_cons_zero, List.set_cons_succ, i64_w, i32_w]; rfl
          refine pure_ (i := 9) (N := some 74) (v := ?_) (a' := ?_) #[true, true, true, true, true, true, true, true, true, true, false, false, false, false, false, false] rfl rfl (by kernel_rfl) (fun _ _ _ h => h) (Or.inl ⟨by rfl, ?_⟩) ?_ ?_
          rotate_left; · intro w'; go_simp; with_reducible rfl
          rotate_left; · simp only [Act.put, List.setIfInBounds_toArray, List.set_cons_zero, List.set_cons_succ, i64_w, i32_w]; rfl
          clear hHeld
          refine one_ (i := 10) (N := some 75) #[true, true, true, true, true, true, true, true, true, true, true, false, false, false, false, false] rfl rfl (by kernel_rfl) (by decide) (fun K hK => ?_)
          refine goes_ Try.func14 (by kernel_rfl) rfl #[.slice (some ad) ls.length c, .agg #[.int .i64 Y.tm, .slice a2.A1 Y.st.length a2.c1, .slice a2.A2 Y.si.length a2.c2, .slice a2.A3 Y.pu.length a2.c3, .slice a2.A4 Y.he.length a2.c4], .int .i64 (wrap64 (Y.tm + warn ls i))] (by rfl) rfl rfl (by simp only [List.map_toArray, List.map_cons, List.map_nil]; rfl) ?_
          refine (waitG_calls ls _ c Y a2 (wrap64 (Y.tm + warn ls i)) _ N2.read.1 N2.read.2 HFIT.out N2.lc).mono ?_
          rw [HWT.out]
          rintro e W15 ⟨a3, rfl, hg, -, hb⟩
          refine ⟨_, rfl, ?_⟩
          have N3 := N2.next hg hb
          have hb3 := blk_below N2.box hb
          have dw3 := pw_cell_below hb DW
          clear hg hb
          obtain ⟨o0, f0, o1, f1, o2, f2, o3, f3, o4, f4⟩ := box_open hb3
          refine hK.out _ _ ⟨o0, o1, o2, o3, o4, dw3⟩ (fun hHeld => ?_)
          clear hK K hHeld
          refine norm_ (a' := ?_) ?_ ?_
          rotate_left
          · show Act.put _ (some 75) _ = _; simp only [Act.put, List.setIfInBounds_toArray, List.set_cons_zero, List.set_cons_succ, i64_w, i32_w]; rfl
          refine pure_ (i := 11) (N := some 64) (v := ?_) (a' := ?_) #[true, true, true, true, true, true, true, true, true, true, true, true, false, false, false, false] rfl rfl (by kernel_rfl) (fun _ _ _ h => h) (Or.inl ⟨by rfl, ?_⟩) ?_ ?_
          rotate_left; · intro w'; go_simp; with_reducible rfl
          rotate_left; · simp only [Act.put, List.setIfInBounds_toArray, List.set_cons_zero, List.set_cons_succ, i64_w, i32_w]; rfl
          refine pure_ (i := 12) (N := some 76) (v := ?_) (a' := ?_) #[true, true, true, true, true, true, true, true, true, true, true, true, true, false, false, false] rfl rfl (by kernel_rfl) (fun _ _ _ h => h) (Or.inl ⟨by rfl, ?_⟩) ?_ ?_
          rotate_left; · intro w'; go_simp; with_reducible rfl
          rotate_left; · simp only [Act.put, List.setIfInBounds_toArray, List.set_cons_zero, List.set_cons_succ, i64_w, i32_w]; rfl
          refine pure_ (i := 13) (N := some 77) (v := ?_) (a' := ?_) #[true, true, true, true, true, true, true, true, true, true, true, true, true, true, false, false] rfl rfl (by kernel_rfl) (fun _ _ _ h => h) (Or.inl ⟨by rfl, ?_⟩) ?_ ?_
          rotate_left; · intro w'; go_simp; with_reducible rfl
          rotate_left; · simp only [Act.put, List.setIfInBounds_toArray, List.set_cons_zero, List.set_cons_succ, i64_w, i32_w]; rfl
          refine last_ (i := 14) (N := none) #[true, true, true, true, true, true, true, true, true, true, true, true, true, true, true, false] rfl rfl (by kernel_rfl) (by decide) (fun K hK => ?_)
          refine skip_ (w1 := ?_) (by rfl) rfl ?_ ?_
          rotate_left
          · go_simp; rfl
          refine hK.out _ _ ?_
          clear hK K
          refine pure_ (i := 15) (N := some 7) (v := ?_) (a' := ?_) #[true, true, true, true, true, true, true, true, true, true, true, true, true, true, true, true] rfl rfl (by kernel_rfl) (fun _ _ _ h => h) (Or.inl ⟨by rfl, ?_⟩) ?_ ?_
          rotate_left; · intro w'; go_simp; with_reducible rfl
          rotate_left; · simp only [Act.put, List.setIfInBounds_toArray, List.set_cons_zero, List.set_cons_succ, i64_w, i32_w]; rfl
          refine done_ (by kernel_rfl) ?_
          go_wp2_with fail
          go_roundg m
          case measure => omega
          case rel => exact ⟨i + 1, Z, a3, rfl, (by first | go_num | (congr 1; first | omega | (unfold wrap64; omega))), (by omega), (by omega), ⟨N3⟩, HGZ⟩
        · obtain rfl : i = ls.length := by omega
          have hi2 : ¬ ((ls.length : Nat) : Int) < (ls.length : Int) := by omega
          have e1 := HGO.out.vl.len.e1
          have hne : ((X.st.length : Int) != (ls.length : Int)) = false := by rw [e1]; simp
          have E1 := Aside0.mk e1
          clear e1
          obtain ⟨k, p5, hk, k0, k1, -⟩ := next_ok HD.out (ls.length : Int) (by omega) (by omega)
          obtain ⟨k, rfl⟩ : ∃ q : Nat, k = (q : Int) := ⟨k.toNat, by omega⟩
          have QK := Aside0.mk hk
          clear hk
          go_upto_region 20 with (go_at_call 10; (with_reducible refine (made_Dice_Next.calls g L p (ls.length : Int) (k : Int) p5 w _ (Rw.dice (Lw.rw_ (by repeat (first | exact N.out | apply Lw.alloc | apply Lw.drewN | apply Lw.drew)))) (Rw.bel (Lw.rw_ (by repeat (first | exact N.out | apply Lw.alloc | apply Lw.drewN | apply Lw.drew)))) QK.out).mono ?_); rintro e w19 ⟨rfl, hi, hb, hk⟩; have N4 := Aside0.mk (Lw.throw (by repeat (first | exact N.out | apply Lw.alloc | apply Lw.drewN | apply Lw.drew)) hi hb hk); clear hi hb hk)
          have hk2 : k < ls.length := by omega
          obtain ⟨hpu, hyl, hyv⟩ := goes_pull HGO.out hk2
          have hon := Aside0.mk HGO.out.on
          obtain ⟨Y, hY⟩ : ∃ Y, pullF ls (k : Int) X = Y := ⟨_, rfl⟩
          rw [hY] at hpu hyl hyv
          clear hY
          have HPU := Aside0.mk hpu
          have HYV := Aside0.mk hyv
          have hne2 : ((Y.st.length : Int) != (ls.length : Int)) = false := by rw [hyl]; simp
          have HYL := Aside0.mk hyl
          clear hpu hyv hyl
          have ⟨yc0, _, yc1, _, yc2, _, yc3, _, yc4, _⟩ := box_open N4.out.box
          go_upto_region 21 with (go_loud (go_at_call 15; (with_reducible refine (pullG_calls ls A c X a (k : Int) _ (Lw.read (by repeat (first | exact N4.out | apply Lw.alloc | apply Lw.drewN | apply Lw.drew))).1 N4.out.read.2 HFIT.out (Lw.lc (by repeat (first | exact N4.out | apply Lw.alloc | apply Lw.drewN | apply Lw.drew)))).mono ?_); rw [HPU.out]; rintro e w20 ⟨a2, rfl, -, hy, hb⟩; have FN := Aside0.mk (Fin.first (by repeat (first | exact N4.out | apply Lw.alloc | apply Lw.drewN | apply Lw.drew)) hb hy); clear hy hb))
          generalize w20.alloc (Obj.cells #[Value.int IntKind.i64 Y.tm, Value.slice a2.A1 Y.st.length a2.c1, Value.slice a2.A2 Y.si.length a2.c2, Value.slice a2.A3 Y.pu.length a2.c3, Value.slice a2.A4 Y.he.length a2.c4] 34) = W21 at FN ⊢
          generalize w20.heap.size = bY at FN ⊢
          clear yc0 yc1 yc2 yc3 yc4 N4
          go_upto_region 22 with (go_loud (go_at_call 16; (with_reducible refine (above_calls ls A c (k : Int) _ (Fin.row (by repeat (first | exact FN.out | apply Fin.alloc | apply Fin.drewN | apply Fin.drew))) FN.out.cap HFIT.out).mono ?_); rintro e w21 ⟨v, rfl, hr, hb⟩; obtain ⟨A9, c9, rfl, l9, r9⟩ := Kd.R_reads hr; have F2 := Aside0.mk (Fin.below (by repeat (first | exact FN.out | apply Fin.alloc | apply Fin.drewN | apply Fin.drew)) hb); have R9 := Aside0.mk r9; have L9 := Aside0.mk l9; clear hr hb r9 l9))
          clear FN
          have ⟨yc0, _, yc1, _, yc2, _, yc3, _, yc4, _⟩ := box_open F2.out.b2
          go_wp2_with fail
          clear yc0 yc1 yc2 yc3 yc4 hne2
          go_loopg [13] ls.length (fun m v13 w' => ∃ i : Nat, v13 = .int .i64 i ∧ i + m = ls.length ∧ Aside0 (Fin w w' A c ls bx bY a a2 X Y) ∧ Aside0 (Kd.C (Kd.int .i64) w' A9 (aboveF ls (k : Int)).length (aboveF ls (k : Int))))
          case atStart => exact ⟨0, rfl, by omega, F2, R9⟩
          case round =>
            clear F2 R9
            obtain ⟨i, rfl, hm, FX, R9⟩ := hrel
            by_cases hi : i < ls.length
            · obtain ⟨m, rfl⟩ : ∃ q, gk = q + 1 := ⟨gk - 1, by omega⟩
              have hi3 : (i : Int) < (ls.length : Int) := by omega
              have lx := FX.out.l1.r1
              have ly := FX.out.l2.r1
              have hx2 := hon.out i hi
              have hy2 := HYV.out i hi
              have hbx1 := FX.out.b1
              have hbx2 := FX.out.b2
              have zl := HYL.out
              have e1 := E1.out
              rw [e1] at lx hbx1
              rw [zl] at ly hbx2
              obtain ⟨xc0, _, xc1, _, xc2, _, xc3, _, xc4, _⟩ := box_open hbx1
              obtain ⟨yc0, _, yc1, _, yc2, _, yc3, _, yc4, _⟩ := box_open hbx2
              clear zl e1 hbx1 hbx2
              obtain ⟨ad1, q1, d1⟩ := Kd.at_int lx (i : Int) (by omega) hi3
              obtain ⟨ad2, q2, d2⟩ := Kd.at_int ly (i : Int) (by omega) hi3
              rw [q1] at xc1
              rw [q2] at yc1
              rw [hx2] at d1
              simp only [Int.toNat_natCast] at d1 d2
              clear lx ly q1 q2 hx2 xc0 xc2 xc3 xc4 yc0 yc2 yc3 yc4
              by_cases hik : i = k
              · have hb : ((i : Int) == (k : Int)) = true := by simp [hik]
                rw [if_pos (show hit ls (k : Int) (i : Int) = true by unfold hit; simp [hik])] at hy2
                rw [hy2] at d2
                clear hy2 hik
                go_wp2_with fail
                go_quiet (fail)
                go_wp2_with fail
                go_roundg m
                case measure => omega
                case rel => exact ⟨i + 1, by go_num, by omega, ⟨FX.out.drewN _⟩, ⟨Kd.C_below R9.out (pw_below_drewN (Below.refl _ _) _)⟩⟩
              · have hb : ((i : Int) == (k : Int)) = false := by simp; omega
                clear hik
                by_cases ht : throwsF ls (i : Int) (k : Int) = true
                · rw [if_pos (show hit ls (k : Int) (i : Int) = true by unfold hit; rw [ht]; simp)] at hy2
                  have HAS := Aside0.mk ((mem_above hsnd hk2 hi).2 ht)
                  rw [hy2] at d2
                  clear hy2 ht
                  go_wp2_with fail
                  go_quiet ((go_at_call 17; refine Calls.quiet_of_same (has_calls (aboveF ls (k : Int)) A9 c9 (i : Int) _ (Kd.C_below R9.out (pw_below_drewN (Below.refl _ _) _)) L9.out (above_fit' HFIT.out) true (iff_of_true rfl HAS.out))))
                  go_wp2_with fail
                  go_roundg m
                  case measure => omega
                  case rel => exact ⟨i + 1, by go_num, by omega, ⟨FX.out.drewN _⟩, ⟨Kd.C_below R9.out (pw_below_drewN (Below.refl _ _) _)⟩⟩
                · rw [if_neg (show ¬ hit ls (k : Int) (i : Int) = true by unfold hit; rw [hb]; simpa using ht)] at hy2
                  have HAS := Aside0.mk (fun q => ht ((mem_above hsnd hk2 hi).1 q))
                  rw [hy2] at d2
                  clear hy2 ht
                  go_wp2_with fail
                  go_quiet ((go_at_call 17; refine Calls.quiet_of_same (has_calls (aboveF ls (k : Int)) A9 c9 (i : Int) _ (Kd.C_below R9.out (pw_below_drewN (Below.refl _ _) _)) L9.out (above_fit' HFIT.out) false (iff_of_false Bool.false_ne_true HAS.out))))
                  go_wp2_with fail
                  go_roundg m
                  case measure => omega
                  case rel => exact ⟨i + 1, by go_num, by omega, ⟨FX.out.drewN _⟩, ⟨Kd.C_below R9.out (pw_below_drewN (Below.refl _ _) _)⟩⟩
            · obtain rfl : i = ls.length := by omega
              go_wp2_with (go_at_call 8; (with_reducible refine (awake_calls _).mono ?_); rintro e w30 ⟨rfl, hb30⟩; have HB30 := Aside0.mk (below_step FX.out.bel hb30); clear hb30)
              go_ret
              exact ⟨rfl, (by repeat (first | exact HB30.out | apply below_drew1 | apply pw_below_drewN))⟩
end Go.Proofs.Ytejmjeanhlkenaa.HandA
