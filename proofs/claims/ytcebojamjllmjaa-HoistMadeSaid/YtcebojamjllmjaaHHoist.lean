/- The limit of a hoist: a search by halving over a closure returns what one plain function says. Conditions: the hoist's bounds. -/
import Derived.Test.YtcebojamjllmjaaHRope
import Derived.LoopTactic
namespace Go.Proofs.Ytcebojamjllmjaa.HandH
open Go.RowKit Go.Proofs.Ytcebojamjllmjaa.Hand

/-- Is the speed x + 1 too great for a brake and a room, as the code reckons it? -/
def tooFast (D R x : Int) : Bool := decide (wrap64 (wrap64 (2 * D) * R) < wrap64 (wrap64 (x + 1) * wrap64 (x + 1)))
theorem hid0 {p : Prop} (h : p) : Hid p := h
theorem too_calls (x D R : Int) (a b : Nat) (w : World) (h1 : w.cell? ⟨a, 2, none⟩ = some (.int .i64 D)) (h2 : w.cell? ⟨b, 0, none⟩ = some (.int .i64 R)) :
    Calls Try.prog 44 #[.int .i64 x, .pointer (some ⟨a, 0, none⟩), .pointer (some ⟨b, 0, none⟩)] w fun e w' => e = .returned (.bool (tooFast D R x)) ∧ w = w' := by
  go_enter Try.func44, Try.ntmps44
  go_wp2
  go_ret
  exact ⟨by unfold tooFast; rfl, rfl⟩

set_option linter.unusedVariables false
set_option maxHeartbeats 1000000 in
theorem search_calls (n D R : Int) (a b : Nat) (w : World) (hn : 0 ≤ n) (hn2 : n ≤ 100000)
    (h1 : w.cell? ⟨a, 2, none⟩ = some (.int .i64 D)) (h2 : w.cell? ⟨b, 0, none⟩ = some (.int .i64 R)) (hm : ∀ x y, 0 ≤ x → x ≤ y → y < n → tooFast D R x = true → tooFast D R y = true) :
    Calls Try.prog 43 #[.int .i64 n, .func (.func 44) #[] #[.pointer (some ⟨a, 0, none⟩), .pointer (some ⟨b, 0, none⟩)]] w fun e w' => (∃ r : Int, e = .returned (.int .i64 r) ∧ 0 ≤ r ∧ r ≤ n ∧ (∀ y, 0 ≤ y → y < r → tooFast D R y = false) ∧ (∀ y, r ≤ y → y < n → tooFast D R y = true)) ∧ w = w' := by
  have HM := hid0 hm
  clear hm
  go_enter Try.func43, Try.ntmps43
  go_wp2
  go_loop [5, 6] (fun v5 v6 => ∃ i j : Int, 0 ≤ i ∧ i ≤ j ∧ j ≤ n ∧ v5 = .int .i64 i ∧ v6 = .int .i64 j ∧ Hid (∀ y, 0 ≤ y → y < i → tooFast D R y = false) ∧ Hid (∀ y, j ≤ y → y < n → tooFast D R y = true)) (fun v5 v6 => (intOf v6 - intOf v5).toNat)
  case atStart => exact ⟨0, n, by omega, hn, by omega, rfl, rfl, fun y q1 q2 => by omega, fun y q1 q2 => by omega⟩
  case round =>
    obtain ⟨i, j, r0, r1, r2, rfl, rfl, hi, hj⟩ := hrel
    by_cases hlt : i < j
    · go_wp2_with (first | (go_at_call 44; refine (too_calls _ _ _ _ _ _ h1 h2).mono ?_; rintro e w' ⟨rfl, rfl⟩))
      · rename_i ht
        have hp : tooFast D R ((i + j) / 2) = false := by simpa using ht
        refine ⟨⟨(i + j) / 2 + 1, j, by omega, by omega, r2, rfl, rfl, fun y q1 q2 => ?_, hj⟩, by simp only [intOf]; omega⟩
        cases hb : tooFast D R y with
        | false => rfl
        | true =>
          have := HM.out y ((i + j) / 2) q1 (by omega) (by omega) hb
          rw [hp] at this
          exact absurd this (by simp)
      · rename_i ht
        have hp : tooFast D R ((i + j) / 2) = true := by simpa using ht
        refine ⟨⟨i, (i + j) / 2, r0, by omega, by omega, rfl, rfl, hi, fun y q1 q2 => HM.out ((i + j) / 2) y (by omega) q1 q2 hp⟩, by simp only [intOf]; omega⟩
    · obtain rfl : i = j := by omega
      go_wp2
      go_ret
      exact ⟨⟨i, rfl, r0, r2, hi, hj⟩, rfl⟩

/-- The search by halving, as a plain function. -/
def bs (p : Int → Bool) : Nat → Int → Int → Int
  | 0, i, _ => i
  | k + 1, i, j => if i < j then (if p ((i + j) / 2) = true then bs p k i ((i + j) / 2) else bs p k ((i + j) / 2 + 1) j) else i
theorem bs_spec (p : Int → Bool) (n : Int) (hm : ∀ x y, 0 ≤ x → x ≤ y → y < n → p x = true → p y = true) : ∀ (k : Nat) (i j : Int), 0 ≤ i → i ≤ j → j ≤ n → j - i < 2 ^ k →
    (∀ y, 0 ≤ y → y < i → p y = false) → (∀ y, j ≤ y → y < n → p y = true) →
    0 ≤ bs p k i j ∧ bs p k i j ≤ n ∧ (∀ y, 0 ≤ y → y < bs p k i j → p y = false) ∧ (∀ y, bs p k i j ≤ y → y < n → p y = true) := by
  intro k
  induction k with
  | zero =>
    intro i j h0 h1 h2 hk hi hj
    have : i = j := by omega
    subst this
    exact ⟨h0, h2, hi, hj⟩
  | succ k ih =>
    intro i j h0 h1 h2 hk hi hj
    have h2k : (2 : Int) ^ (k + 1) = 2 * 2 ^ k := by rw [Int.pow_succ, Int.mul_comm]
    rw [h2k] at hk
    unfold bs
    by_cases hlt : i < j
    · rw [if_pos hlt]
      by_cases hp : p ((i + j) / 2) = true
      · rw [if_pos hp]
        exact ih i ((i + j) / 2) h0 (by omega) (by omega) (by omega) hi (fun y q1 q2 => hm ((i + j) / 2) y (by omega) q1 q2 hp)
      · rw [if_neg hp]
        refine ih ((i + j) / 2 + 1) j (by omega) (by omega) h2 (by omega) (fun y q1 q2 => ?_) hj
        cases hb : p y with
        | false => rfl
        | true => exact absurd (hm y ((i + j) / 2) q1 (by omega) (by omega) hb) hp
    · rw [if_neg hlt]
      have : i = j := by omega
      subst this
      exact ⟨h0, h2, hi, hj⟩
theorem least_one {p : Int → Bool} {n r s : Int} (h0 : 0 ≤ r) (h1 : r ≤ n) (h2 : ∀ y, 0 ≤ y → y < r → p y = false) (h3 : ∀ y, r ≤ y → y < n → p y = true)
    (k0 : 0 ≤ s) (k1 : s ≤ n) (k2 : ∀ y, 0 ≤ y → y < s → p y = false) (k3 : ∀ y, s ≤ y → y < n → p y = true) : r = s := by
  rcases Int.lt_trichotomy r s with h | h | h
  · have a := k2 r h0 h
    rw [h3 r (Int.le_refl _) (by omega)] at a
    exact absurd a (by simp)
  · exact h
  · have a := h2 s k0 h
    rw [k3 s (Int.le_refl _) (by omega)] at a
    exact absurd a (by simp)

theorem sq_le {x : Int} (h0 : 0 ≤ x) (h1 : x ≤ 20001) : 0 ≤ x * x ∧ x * x ≤ 400040001 := by
  have := Int.mul_le_mul h1 h1 h0 (by omega)
  exact ⟨Int.mul_nonneg h0 h0, by omega⟩
theorem dr_le {D R : Int} (d1 : 1 ≤ D) (d2 : D ≤ 5000) (r1 : 0 ≤ R) (r2 : R ≤ 400040001) : 0 ≤ 2 * D * R ∧ 2 * D * R ≤ 4000400010000 := by
  have := Int.mul_le_mul (show 2 * D ≤ 10000 by omega) r2 r1 (by omega)
  exact ⟨Int.mul_nonneg (by omega) r1, by omega⟩
/-- Within the bounds nothing goes round. -/
theorem too_eq {D R x : Int} (d1 : 1 ≤ D) (d2 : D ≤ 5000) (r1 : 0 ≤ R) (r2 : R ≤ 400040001) (x0 : 0 ≤ x) (x1 : x ≤ 20000) : tooFast D R x = decide (2 * D * R < (x + 1) * (x + 1)) := by
  have h1 := dr_le d1 d2 r1 r2
  have h2 := sq_le (show 0 ≤ x + 1 by omega) (show x + 1 ≤ 20001 by omega)
  have e1 : wrap64 (x + 1) = x + 1 := by unfold wrap64; omega
  have e2 : wrap64 (2 * D) = 2 * D := by unfold wrap64; omega
  unfold tooFast
  rw [e1, e2]
  have e3 : wrap64 (2 * D * R) = 2 * D * R := by
    generalize 2 * D * R = z at *
    unfold wrap64
    omega
  have e4 : wrap64 ((x + 1) * (x + 1)) = (x + 1) * (x + 1) := by
    generalize (x + 1) * (x + 1) = z at *
    unfold wrap64
    omega
  rw [e3, e4]
theorem too_mono {D R : Int} (d1 : 1 ≤ D) (d2 : D ≤ 5000) (r1 : 0 ≤ R) (r2 : R ≤ 400040001) (n : Int) (hn : n ≤ 20000) : ∀ x y, 0 ≤ x → x ≤ y → y < n → tooFast D R x = true → tooFast D R y = true := by
  intro x y h0 h1 h2 h
  rw [too_eq d1 d2 r1 r2 h0 (by omega), decide_eq_true_eq] at h
  rw [too_eq d1 d2 r1 r2 (by omega) (by omega), decide_eq_true_eq]
  have := Int.mul_le_mul (show x + 1 ≤ y + 1 by omega) (show x + 1 ≤ y + 1 by omega) (by omega) (by omega)
  omega

def lesser (a b : Int) : Int := if b < a then b else a
/-- The room as far as it matters. -/
def roomR (h1 room : Int) : Int := lesser room (h1 * h1)
/-- The limit for a hoist within its bounds. -/
def limitOf (h1 h2 h3 room : Int) : Int := if room ≤ 0 then lesser h3 h1 else lesser (h3 + bs (tooFast h2 (roomR h1 room)) 15 0 h1) h1

theorem limit_neg (h0 h1 h2 h3 h4 room : Int) (w : World) (hr : room ≤ 0) :
    Calls Try.prog 28 #[.agg #[.int .i64 h0, .int .i64 h1, .int .i64 h2, .int .i64 h3, .int .i64 h4], .int .i64 room] w fun e w' => e = .returned (.int .i64 (limitOf h1 h2 h3 room)) ∧ Below w.heap.size w w' := by
  have hl : limitOf h1 h2 h3 room = lesser h3 h1 := if_pos hr
  rw [hl]
  clear hl
  go_enter Try.func28, Try.ntmps28
  by_cases h : h1 < h3
  · go_wp2
    go_ret
    exact ⟨ret_i64 (by unfold lesser; simp [h]), by repeat (with_reducible first | exact Below.refl _ _ | apply bel_alloc)⟩
  · go_wp2
    go_ret
    exact ⟨ret_i64 (by unfold lesser; rw [if_neg (by omega)]), by repeat (with_reducible first | exact Below.refl _ _ | apply bel_alloc)⟩
theorem roomR_le {h1 room : Int} (hr : 0 < room) (t1 : 1 ≤ h1) (t2 : h1 ≤ 20000) : 0 ≤ roomR h1 room ∧ roomR h1 room ≤ 400040001 := by
  have := sq_le (show 0 ≤ h1 by omega) (show h1 ≤ 20001 by omega)
  unfold roomR lesser
  generalize h1 * h1 = z at *
  split <;> omega
set_option maxHeartbeats 1000000 in
theorem limit_pos (h0 h1 h2 h3 h4 room : Int) (w : World) (hr : 0 < room) (t1 : 1 ≤ h1) (t2 : h1 ≤ 20000) (d1 : 1 ≤ h2) (d2 : h2 ≤ 5000) (c1 : 0 ≤ h3) (c2 : h3 ≤ 20000) :
    Calls Try.prog 28 #[.agg #[.int .i64 h0, .int .i64 h1, .int .i64 h2, .int .i64 h3, .int .i64 h4], .int .i64 room] w fun e w' => e = .returned (.int .i64 (limitOf h1 h2 h3 room)) ∧ Below w.heap.size w w' := by
  have hR := roomR_le hr t1 t2
  have hm := too_mono d1 d2 hR.1 hR.2 h1 t2
  obtain ⟨s0, s1, s2, s3⟩ := bs_spec (tooFast h2 (roomR h1 room)) h1 hm 15 0 h1 (by omega) (by omega) (by omega) (by omega) (fun y q1 q2 => by omega) (fun y q1 q2 => by omega)
  have hl : limitOf h1 h2 h3 room = lesser (h3 + bs (tooFast h2 (roomR h1 room)) 15 0 h1) h1 := if_neg (by omega)
  have one : ∀ r : Int, 0 ≤ r → r ≤ h1 → (∀ y, 0 ≤ y → y < r → tooFast h2 (roomR h1 room) y = false) → (∀ y, r ≤ y → y < h1 → tooFast h2 (roomR h1 room) y = true) → lesser (h3 + r) h1 = limitOf h1 h2 h3 room := by
    intro r q0 q1 q2 q3
    rw [hl, least_one q0 q1 q2 q3 s0 s1 s2 s3]
  have ONE := hid0 one
  have HM := hid0 hm
  clear one hm hl s0 s1 s2 s3
  have hsq := sq_le (show 0 ≤ h1 by omega) (show h1 ≤ 20001 by omega)
  have hw : wrap64 (h1 * h1) = h1 * h1 := by
    generalize h1 * h1 = z at *
    unfold wrap64
    omega
  have HW := hid0 hw
  clear hw hR hsq
  obtain ⟨R, hR⟩ : ∃ R, R = roomR h1 room := ⟨_, rfl⟩
  rw [← hR] at HM ONE
  have HR := hid0 hR
  clear hR
  go_enter Try.func28, Try.ntmps28
  go_wp2_with fail
  · have e : R = wrap64 (h1 * h1) := by
      rw [HR.out]
      unfold roomR lesser
      have := HW.out
      rw [if_pos (by omega), this]
    rw [← e]
    clear e
    refine (search_calls h1 h2 R w.heap.size (w.heap.size + 1) _ (by omega) (by omega) (by simp) (by simp) HM.out).mono ?_
    rintro e w' ⟨⟨r, rfl, q0, q1, q2, q3⟩, rfl⟩
    have HE := hid0 (ONE.out r q0 q1 q2 q3)
    clear q2 q3
    by_cases hlt : h1 < h3 + r
    all_goals
      go_wp2
      go_ret
      exact ⟨ret_i64 (by rw [← HE.out]; unfold lesser; first | rw [if_pos hlt] | rw [if_neg (by omega)]), by repeat (with_reducible first | exact Below.refl _ _ | apply bel_alloc)⟩
  · have e : R = room := by
      rw [HR.out]
      unfold roomR lesser
      have := HW.out
      rw [if_neg (by omega)]
    subst e
    refine (search_calls h1 h2 R w.heap.size (w.heap.size + 1) _ (by omega) (by omega) (by simp) (by simp) HM.out).mono ?_
    rintro e w' ⟨⟨r, rfl, q0, q1, q2, q3⟩, rfl⟩
    have HE := hid0 (ONE.out r q0 q1 q2 q3)
    clear q2 q3
    by_cases hlt : h1 < h3 + r
    all_goals
      go_wp2
      go_ret
      exact ⟨ret_i64 (by rw [← HE.out]; unfold lesser; first | rw [if_pos hlt] | rw [if_neg (by omega)]), by repeat (with_reducible first | exact Below.refl _ _ | apply bel_alloc)⟩
/-- In the print's form: within the bounds of a hoist. -/
def hoist_Limit.f (a0_0 : Int) (a0_1 : Int) (a0_2 : Int) (a0_3 : Int) (a0_4 : Int) (a1 : Int) : Option (Int) :=
  if 1 ≤ a0_1 ∧ a0_1 ≤ 20000 ∧ 1 ≤ a0_2 ∧ a0_2 ≤ 5000 ∧ 0 ≤ a0_3 ∧ a0_3 ≤ 20000 then some (limitOf a0_1 a0_2 a0_3 a1) else none
theorem hoist_Limit.calls (a0_0 : Int) (a0_1 : Int) (a0_2 : Int) (a0_3 : Int) (a0_4 : Int) (a1 : Int) (r : Int) (w : World) (h : hoist_Limit.f a0_0 a0_1 a0_2 a0_3 a0_4 a1 = some r) :
    Calls Try.prog 28 #[.agg #[.int .i64 a0_0, .int .i64 a0_1, .int .i64 a0_2, .int .i64 a0_3, .int .i64 a0_4], .int .i64 a1] w fun e w' => e = .returned (.int .i64 r) ∧ Below w.heap.size w w' := by
  unfold hoist_Limit.f at h
  split at h
  · rename_i hb
    obtain ⟨t1, t2, d1, d2, c1, c2⟩ := hb
    have h := Option.some.inj h
    subst h
    by_cases hr : a1 ≤ 0
    · exact limit_neg _ _ _ _ _ _ _ hr
    · exact limit_pos _ _ _ _ _ _ _ (by omega) t1 t2 d1 d2 c1 c2
  · cases h
end Go.Proofs.Ytcebojamjllmjaa.HandH
