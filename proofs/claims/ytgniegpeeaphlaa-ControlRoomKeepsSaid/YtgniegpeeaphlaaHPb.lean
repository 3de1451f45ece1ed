/- Dice, bytes and records. -/
import Derived.Test.YtgniegpeeaphlaaHAy
import Derived.Test.YtgniegpeeaphlaaHDi
import Derived.Test.YtgniegpeeaphlaaPRx1
import Derived.Test.YtgniegpeeaphlaaPRx12
namespace Go.Proofs.Ytgniegpeeaphlaa.HandA
open Go.RowKit Go.Proofs.Ytgniegpeeaphlaa.PR Go.Proofs.YtgniegpeeaphlaaW.PrintWords Go.Proofs.YtgniegpeeaphlaaW.PrintLast Go.Proofs.YtgniegpeeaphlaaW.PrintMore
set_option linter.unusedVariables false
set_option linter.unusedSimpArgs false
structure Bw (w W : World) (g : Nat) (L : List Int) (p : Int) (vb : Value) (B : List Int) (vl : Value) (ls : List S32) : Prop where
  dice : IsS65 w W g L p
  bel : Below w.heap.size w W
  rb : Kd.R kb 5 W w.heap.size (fun _ => True) vb B
  rl : Kd.R k32 32 W w.heap.size (fun _ => True) vl ls
section
variable {w W W' : World} {g : Nat} {L B : List Int} {p p' : Int} {vb vl : Value} {ls : List S32}
theorem Bw.below (h : Bw w W g L p vb B vl ls) (hb : Below W.heap.size W W') : Bw w W' g L p vb B vl ls := ⟨h.dice.below hb, below_step h.bel hb, Kd.R_below h.rb hb, Kd.R_below h.rl hb⟩
theorem Bw.alloc (h : Bw w W g L p vb B vl ls) (o : Obj) : Bw w (W.alloc o) g L p vb B vl ls := h.below (below_alloc (Below.refl _ _) o)
theorem Bw.drewN (h : Bw w W g L p vb B vl ls) (n : Nat) : Bw w (W.drewN n) g L p vb B vl ls := h.below (pw_below_drewN (Below.refl _ _) n)
theorem Bw.drew (h : Bw w W g L p vb B vl ls) : Bw w W.drew g L p vb B vl ls := h.below (below_drew1 (Below.refl _ _))
theorem Bw.throw (h : Bw w W g L p vb B vl ls) (hi : IsS65 w W' g L p') (hb : Below w.heap.size w W') (hk : KeepBut W W' g none) : Bw w W' g L p' vb B vl ls :=
  ⟨hi, hb, Kd.R_mono (Kd.R_keep (h.dice.apart h.rb (by decide)) hk (fun _ h => h.2)) (fun _ h => h.1), Kd.R_mono (Kd.R_keep (h.dice.apart h.rl (by decide)) hk (fun _ h => h.2)) (fun _ h => h.1)⟩
end
/-- What has another type lives on when a row grows. -/
theorem R_grownT {α β : Type} {d : Kd α} {d2 : Kd β} {e e2 base base2 : Nat} {ok ok2 : Nat → Prop} {v u : Value} {xs : List α} {ys : List β} {W W1 : World} (h : d.R e W base ok v xs) (h2 : d2.R e2 W base2 ok2 u ys) (ht : ∀ q, q ∈ e :: d.E → q ≠ e2) (hg : W.grownBy W1 u.ownBlock) : d.R e W1 base ok v xs :=
  Kd.R_mono (Kd.R_grown (Kd.R_bound h) hg (fun k hk hq => by
    obtain ⟨_, _, _, q, hq1, cs, hcs⟩ := hk
    obtain ⟨cs2, hc2⟩ := Kd.R_typed h2 k hq.symm
    rw [hcs] at hc2
    injection hc2 with hc2
    injection hc2 with _ h3
    exact ht q hq1 h3)) (fun k hk => hk.1)
section
variable {w W W' : World} {g : Nat} {L B : List Int} {p p' : Int} {vb vl v1 : Value} {ls : List S32}
theorem Bw.appB {X : List Int} (h : Bw w W g L p vb B vl ls) (ho : Kd.R kb 5 W' w.heap.size (fun _ => True) v1 X) (hb : Below w.heap.size w W') (hg : W.grownBy W' vb.ownBlock) : Bw w W' g L p v1 X vl ls :=
  ⟨h.dice.grown hg (h.dice.own_ne h.rb (by decide)), hb, ho, R_grownT h.rl h.rb (by decide) hg⟩
theorem Bw.appL {X : List S32} (h : Bw w W g L p vb B vl ls) (ho : Kd.R k32 32 W' w.heap.size (fun _ => True) v1 X) (hb : Below w.heap.size w W') (hg : W.grownBy W' vl.ownBlock) : Bw w W' g L p vb B v1 X :=
  ⟨h.dice.grown hg (h.dice.own_ne h.rl (by decide)), hb, R_grownT h.rb h.rl (by decide) hg, ho⟩
end
/-- One record in a row of its own is read. -/
theorem rec_read {V : World} {b : Nat} {r : S32} (h : V.heap[b]? = some (.cells #[.int .i64 r.f0, .int .i64 r.f1, .int .i64 r.f2, .int .i64 r.f3] 32 (0, 0))) : Kd.C k32 V (some ⟨b, 0, none⟩) 1 [r] := by
  have c0 := (blk_cell h 0).trans rfl
  have c1 := (blk_cell h 1).trans rfl
  have c2 := (blk_cell h 2).trans rfl
  have c3 := (blk_cell h 3).trans rfl
  refine ⟨rfl, by decide, fun _ => ⟨_, rfl, fun j p hj => ?_⟩⟩
  rcases j with _ | j
  · cases hj
    refine ⟨[.int .i64 r.f0, .int .i64 r.f1, .int .i64 r.f2, .int .i64 r.f3], rfl, k32_mk _ _, fun i u hu => ?_⟩
    rcases i with _ | _ | _ | _ | i
    · cases hu; exact c0
    · cases hu; exact c1
    · cases hu; exact c2
    · cases hu; exact c3
    · cases hu
  · cases hj
end Go.Proofs.Ytgniegpeeaphlaa.HandA
