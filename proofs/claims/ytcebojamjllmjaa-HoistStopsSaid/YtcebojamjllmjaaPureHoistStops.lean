/- The distance to stop of a speed within the limit is within the room; limits never fall with more room; and a ride that has tripped comes to rest in time, and never gets faster. For every input. -/
import Derived.Test.YtcebojamjllmjaaPureHoistMirror
import Derived.Test.YtcebojamjllmjaaPHoistx4
import Derived.Test.YtcebojamjllmjaaPHoistx10
namespace Go.Proofs.Ytcebojamjllmjaa.Pure
open Go.RowKit Go.Proofs.Ytcebojamjllmjaa.PHoist Go.Proofs.Ytcebojamjllmjaa.PDiceH Go.Proofs.Ytcebojamjllmjaa.HMath Go.Proofs.Ytcebojamjllmjaa.Hand Go.Proofs.Ytcebojamjllmjaa.HandH Go.Proofs.YtcebojamjllmjaaW.PrintWords Go.Proofs.YtcebojamjllmjaaW.PrintLast Go.Proofs.YtcebojamjllmjaaW.PrintMore
set_option linter.unusedVariables false

theorem roomR_le_room (t room : Int) : roomR t room ≤ room := by rw [roomR_eq]; split <;> omega
/-- A limit's square is within what the brake can do in the room. -/
theorem limit_sq {t b room : Int} (t1 : 1 ≤ t) (t2 : t ≤ 20000) (b1 : 1 ≤ b) (b2 : b ≤ 5000) (hr : 0 ≤ room) : limitOf t b 0 room * limitOf t b 0 room ≤ 2 * b * room := by
  unfold limitOf lesser
  by_cases h : room ≤ 0
  · rw [if_pos h, if_neg (by omega), show room = 0 by omega]
    omega
  · rw [if_neg h]
    obtain ⟨x, hx, x0, x1, x2, _⟩ := limit_root t1 t2 b1 b2 (room := room) (by omega)
    rw [hx, if_neg (by omega), show (0 : Int) + x = x by omega]
    have h1 := roomR_le_room t room
    have h2 := Int.mul_le_mul (Int.le_refl (2 * b)) h1 (roomR_le (by omega) t1 t2).1 (by omega)
    omega
theorem limit_mono {t b c room room2 : Int} (t1 : 1 ≤ t) (t2 : t ≤ 20000) (b1 : 1 ≤ b) (b2 : b ≤ 5000) (c1 : 0 ≤ c) (c2 : c ≤ t) (h : room ≤ room2) : limitOf t b c room ≤ limitOf t b c room2 := by
  unfold limitOf lesser
  by_cases h1 : room ≤ 0
  · rw [if_pos h1]
    by_cases h2 : room2 ≤ 0
    · rw [if_pos h2]; exact Int.le_refl _
    · rw [if_neg h2]
      obtain ⟨x, hx, x0, x1, x2, _⟩ := limit_root t1 t2 b1 b2 (room := room2) (by omega)
      rw [hx]
      (repeat' split) <;> omega
  · rw [if_neg h1, if_neg (show ¬ room2 ≤ 0 by omega)]
    obtain ⟨x, hx, x0, x1, x2, x3⟩ := limit_root t1 t2 b1 b2 (room := room) (by omega)
    obtain ⟨y, hy, y0, y1, y2, y3⟩ := limit_root t1 t2 b1 b2 (room := room2) (by omega)
    rw [hx, hy]
    have hR : roomR t room ≤ roomR t room2 := by rw [roomR_eq, roomR_eq]; (repeat' split) <;> omega
    have hm := Int.mul_le_mul (Int.le_refl (2 * b)) hR (roomR_le (by omega) t1 t2).1 (by omega)
    have hxy : x ≤ y := by
      by_cases hlt : y < x
      · have k := y3 (by omega)
        have := sq_mono (a := y + 1) (b := x) (by omega) (by omega)
        omega
      · omega
    (repeat' split) <;> omega
theorem stop_val {d t b c m v : Int} (b1 : 1 ≤ b) (b2 : b ≤ 5000) (v0 : 0 ≤ v) (v1 : v ≤ 20000) : hoist_Stop.f d t b c m v = some ((v * v + 2 * b - 1) / (2 * b)) := by
  have h := sq_le v0 (show v ≤ 20001 by omega)
  have e1 : wrap64 (2 * b) = 2 * b := wId (by omega) (by omega)
  have e2 : wrap64 (v * v) = v * v := wId (by omega) (by omega)
  have e3 : wrap64 (v * v + 2 * b) = v * v + 2 * b := wId (by omega) (by omega)
  have e4 : wrap64 (v * v + 2 * b - 1) = v * v + 2 * b - 1 := wId (by omega) (by omega)
  have hd : 0 ≤ (v * v + 2 * b - 1) / (2 * b) := Int.ediv_nonneg (by omega) (by omega)
  have hd2 : (v * v + 2 * b - 1) / (2 * b) ≤ v * v + 2 * b - 1 := Int.ediv_le_self _ (by omega)
  unfold hoist_Stop.f
  rw [if_neg (by omega), e1, if_neg (by omega), e2, e3, e4, tdiv_pos (by omega), wId (by omega) (by omega)]
theorem stop_in {b v x : Int} (b1 : 1 ≤ b) (h : v * v ≤ 2 * b * x) : (v * v + 2 * b - 1) / (2 * b) ≤ x := by
  have : (v * v + 2 * b - 1) / (2 * b) < x + 1 := by
    apply Int.ediv_lt_of_lt_mul (by omega)
    have e : (x + 1) * (2 * b) = 2 * b * x + 2 * b := by rw [Int.add_mul, Int.one_mul, Int.mul_comm x]
    rw [e]
    omega
  omega

/-- A ride that has tripped: it gets no faster, and slower by the brake. -/
theorem trip_slow {t b v acc : Int} (b1 : 1 ≤ b) (v1 : -20000 ≤ v) (v2 : v ≤ 20000) : absP (speedP t b v acc true) ≤ absP v ∧ (absP v ≤ b → speedP t b v acc true = 0) ∧ (b ≤ absP v → absP (speedP t b v acc true) = absP v - b) ∧ -20000 ≤ speedP t b v acc true ∧ speedP t b v acc true ≤ 20000 := by
  unfold speedP absP clampP mx mn
  simp only [if_true]
  refine ⟨?_, fun h => ?_, fun h => ?_, ?_, ?_⟩
  all_goals ((repeat' split) <;> (repeat' split at *) <;> omega)
theorem abs_zero {v : Int} : absP v ≤ 0 → v = 0 := by unfold absP mx; intro h; split at h <;> omega
theorem trip_true (d t b c m a v : Int) : tripP d t b c m a v true = true := by unfold tripP; rfl

theorem hoistStops_loop (L : List Int) (d t b m q N : Int) (hmade : Made d t b m) (h1 : wrap64 (wrap64 (Int.tdiv (20000 : Int) b) + 1) = q) (h2 : ∀ i, 0 ≤ i → ((i ≤ q ∧ i < 300) ↔ i < N)) (h3 : q ≥ 300 ∨ 20000 ≤ N * b) (hN : N ≤ 300) (n : Nat) :
    ∀ (k : Nat) (i a v z : Int), DiceOk L z → RideOk d a v → -20000 ≤ v → v ≤ 20000 → 0 ≤ i → N - i = (n : Int) → (absP v ≤ 0 ∨ absP v + i * b ≤ 20000) → 3 * n + 3 < k →
    law37_HoistStops.l0 k i L z d t b 0 m a v true = some true := by
  have hb : 1 ≤ b ∧ b ≤ 5000 := by
    obtain ⟨_, _, q3, _⟩ := hmade
    omega
  have hd : 1 ≤ d := by
    obtain ⟨q1, _, _, _⟩ := hmade
    omega
  have ht : 1 ≤ t ∧ t ≤ 20000 := by
    obtain ⟨_, q2, _, _⟩ := hmade
    omega
  induction n with
  | zero =>
    intro k i a v z hg hr v1 v2 i0 hi hl hk
    obtain ⟨k, rfl⟩ : ∃ m, k = m + 1 + 1 := ⟨k - 2, by omega⟩
    have hno : ¬(i ≤ q ∧ i < 300) := fun hh => by have := (h2 i i0).mp hh; omega
    have fin : law37_HoistStops.j2 (k + 1) i false L z d t b 0 m a v true = some true := by
      simp only [law37_HoistStops.j2]
      rw [if_neg (by simp), awake_ok]; simp only [Option.bind_some, if_true]
      by_cases hv : v = 0
      · rw [if_pos hv]
      · rw [if_neg hv, if_neg (by omega), h1]
        have hz : ¬ absP v ≤ 0 := fun h => hv (abs_zero (v := v) h)
        rw [show i = N by omega] at hl
        rw [decide_eq_true (by omega)]
    simp only [law37_HoistStops.l0]
    rw [if_neg (by omega), h1]
    split
    · rw [decide_eq_false (by omega)]
      exact fin
    · exact fin
  | succ n ih =>
    intro k i a v z hg hr v1 v2 i0 hi hl hk
    obtain ⟨k, rfl⟩ : ∃ m, k = m + 1 + 1 + 1 := ⟨k - 3, by omega⟩
    obtain ⟨y1, y2⟩ := (h2 i i0).mpr (by omega)
    obtain ⟨acc, z2, e2, m2, g2⟩ := of_ok hg [0, 5000, -5000] (by simp) (by simp)
    have hok : HoistOk d t b 0 m := hmade.hoist (by omega) (by omega)
    have ht1 := tick_val hok hr true acc
    rw [trip_true] at ht1
    obtain ⟨s1, s2, s3, s4, s5⟩ := trip_slow (t := t) (acc := acc) hb.1 v1 v2
    have ha := atP_in (a := a) (v := v) (w := speedP t b v acc true) hd
    have e1 : wrap64 (-v) = -v := wId (by omega) (by omega)
    have e3 : wrap64 (-speedP t b v acc true) = -speedP t b v acc true := wId (by omega) (by omega)
    have e4 : wrap64 (i + 1) = i + 1 := wId (by omega) (by omega)
    simp only [law37_HoistStops.l0]
    rw [if_neg (by omega), h1, if_pos y1, decide_eq_true y2]
    simp only [law37_HoistStops.j2, if_true]
    rw [e2]; simp only [Option.bind_some]
    rw [ht1]; simp only [Option.bind_some, if_true]
    rw [e1, e3]
    have hm : (i + 1) * b = i * b + b := by rw [Int.add_mul, Int.one_mul]
    generalize speedP t b v acc true = w at *
    simp only [law37_HoistStops.j3]
    rw [if_neg (by rw [decide_eq_true_eq]; unfold absP at s1; omega), e4]
    refine ih _ _ _ _ _ g2 ⟨ha.1, ha.2, by omega, by omega⟩ s4 s5 (by omega) (by omega) ?_ (by omega)
    rw [hm]
    by_cases hs : absP v ≤ b
    · left
      rw [s2 hs]
      decide +kernel
    · right
      have := s3 (by omega)
      omega

theorem stops_consts {d t b m : Int} (h : Made d t b m) : ∃ q N : Int, wrap64 (wrap64 (Int.tdiv (20000 : Int) b) + 1) = q ∧ (∀ i, 0 ≤ i → ((i ≤ q ∧ i < 300) ↔ i < N)) ∧ (q ≥ 300 ∨ 20000 ≤ N * b) ∧ N ≤ 300 ∧ 0 ≤ N := by
  obtain ⟨_, _, q3, _⟩ := h
  rcases q3 with rfl | rfl | rfl | rfl
  · exact ⟨21, 22, by decide +kernel, by intro i hi; omega, by omega, by omega, by omega⟩
  · exact ⟨20001, 300, by decide +kernel, by intro i hi; omega, by omega, by omega, by omega⟩
  · exact ⟨5, 6, by decide +kernel, by intro i hi; omega, by omega, by omega, by omega⟩
  · exact ⟨201, 202, by decide +kernel, by intro i hi; omega, by omega, by omega, by omega⟩

theorem HoistStops : law37_HoistStops.Pure := by
  intro l0 a1 a2 hm hs hw hw1 hw2
  obtain ⟨k, hk⟩ : ∃ k : Nat, 1000 ≤ k := ⟨1000, Nat.le_refl _⟩
  refine ⟨k, ?_⟩
  unfold law37_HoistStops.f made_Light.f made_Roll.f
  simp only [Option.bind_some]
  by_cases hl : (l0.length : Int) ≤ 400
  · rw [if_pos (by simpa using hl)]
    obtain ⟨d, t, b, m, z1, e1, g1, hmade⟩ := made1_ok (DiceOk.zero hl)
    have hq := hmade
    obtain ⟨q1, q2, q3, q4⟩ := hq
    have hok : HoistOk d t b 0 m := hmade.hoist (by omega) (by omega)
    have w1 : wrap64 (d + 1) = d + 1 := wId (by omega) (by omega)
    obtain ⟨x, e2, x0, x1⟩ := mod_ok a1 (d + 1) (by omega) (by omega)
    have hlim := limit_bounds (t := t) (b := b) (c := 0) (room := x) (by omega) (by omega) (by omega) (by omega) (by omega) (by omega)
    have hsq := limit_sq (t := t) (b := b) (room := x) (by omega) (by omega) (by omega) (by omega) x0
    have w2 : wrap64 (limitOf t b 0 x + 1) = limitOf t b 0 x + 1 := wId (by omega) (by omega)
    have hmx : mx 1 (limitOf t b 0 x + 1) = limitOf t b 0 x + 1 := by unfold mx; split <;> omega
    obtain ⟨v, e3, v0, v1⟩ := mod_ok a2 (limitOf t b 0 x + 1) (by omega) (by omega)
    have hv2 := sq_mono (a := v) (b := limitOf t b 0 x) v0 (by omega)
    have hst := stop_in (b := b) (v := v) (x := x) (by omega) (by omega)
    obtain ⟨p, z2, e4, p0, p1, g2⟩ := next_ok g1 1000 (by omega) (by omega)
    have w3 : wrap64 (x + p) = x + p := wId (by omega) (by omega)
    have hmono := limit_mono (t := t) (b := b) (c := 0) (room := x) (room2 := x + p) (by omega) (by omega) (by omega) (by omega) (by omega) (by omega) (by omega)
    obtain ⟨u, e5, u0, u1⟩ := mod_ok a2 40000 (by omega) (by omega)
    have w4 : wrap64 (u - 20000) = u - 20000 := wId (by omega) (by omega)
    obtain ⟨q, N, c1, c2, c3, c4, c5⟩ := stops_consts hmade
    rw [e1]; simp only [Option.bind_some, w1]
    rw [e2]; simp only [Option.bind_some]
    rw [lim_val hok]; simp only [Option.bind_some, w2, hmx]
    rw [e3]; simp only [Option.bind_some]
    rw [if_neg (by omega), stop_val (by omega) (by omega) v0 (by omega)]; simp only [Option.bind_some]
    rw [if_neg (by omega), e4]; simp only [Option.bind_some, w3]
    rw [lim_val hok]; simp only [Option.bind_some]
    rw [if_neg (by omega), decide_eq_false (by omega)]
    obtain ⟨k, rfl⟩ : ∃ m, k = m + 1 := ⟨k - 1, by omega⟩
    simp only [law37_HoistStops.j0]
    rw [if_neg (by simp), w1, e2]; simp only [Option.bind_some]
    rw [e5]; simp only [Option.bind_some, w4]
    obtain ⟨n, hn⟩ := Int.eq_ofNat_of_zero_le c5
    refine hoistStops_loop l0 d t b m q N hmade c1 c2 c3 c4 n k 0 x (u - 20000) z2 g2 ⟨by omega, by omega, by omega, by omega⟩ (by omega) (by omega) (by omega) (by omega) ?_ (by omega)
    right
    unfold absP mx
    split <;> omega
  · rw [if_neg (by simpa using hl), awake_ok]
    rfl
end Go.Proofs.Ytcebojamjllmjaa.Pure
