/- A rope that is not known to be taut for longer than is permitted while it pays out trips; too much is noticed at once; a trip stays until it is reset, and this needs rest and a force that is known to be right. For every list of numbers. -/
import Derived.Test.YtcebojamjllmjaaPRopex5
import Derived.Test.YtcebojamjllmjaaPureRopeMade
namespace Go.Proofs.Ytcebojamjllmjaa.Pure
open Go.RowKit Go.Proofs.Ytcebojamjllmjaa.PRope Go.Proofs.Ytcebojamjllmjaa.PDice Go.Proofs.Ytcebojamjllmjaa.Hand Go.Proofs.YtcebojamjllmjaaW.PrintWords Go.Proofs.YtcebojamjllmjaaW.PrintLast
set_option linter.unusedVariables false

/-- The state of the rope and the time of slack that the law keeps beside it. -/
def RopeAt (D p0 p1 now slack : Int) : Prop := (0 ≤ D ∧ D ≤ 100) ∧ -1 ≤ p0 ∧ p0 ≤ p1 ∧ 0 ≤ p1 ∧ p1 ≤ now ∧ p0 = slack
theorem at_valid {D p0 p1 now s : Int} (h : RopeAt D p0 p1 now s) (hn : now ≤ 100000) : ropeValid 100 900 D p0 p1 = true := by
  obtain ⟨⟨h1, h2⟩, h3, h4, h5, h6, h7⟩ := h
  unfold ropeValid inB
  simp only [Bool.and_eq_true, decide_eq_true_eq]
  omega
theorem at_time {D p0 p1 now s t : Int} (h : RopeAt D p0 p1 now s) (ht : now ≤ t) (hn : t ≤ 100000) : inB t p1 2147483648 = true := by
  obtain ⟨⟨h1, h2⟩, h3, h4, h5, h6, h7⟩ := h
  unfold inB
  simp only [decide_eq_true_eq]
  omega
theorem at_tick {D p0 p1 now s t : Int} (h : RopeAt D p0 p1 now s) (ht : now ≤ t) (hn : t ≤ 100000) (p2 : Bool) (l hi : Int) (dn : Bool) :
    rope_Tick.f 100 900 D p0 p1 p2 l hi dn t = some (tickSince 100 p0 l hi t, t, p2 || !light 900 l hi || (dn && decide (0 ≤ tickSince 100 p0 l hi t) && overB D t (tickSince 100 p0 l hi t)), 0) := by
  unfold rope_Tick.f ropeTick
  rw [at_valid h (by omega), at_time h ht hn]
  rfl
theorem at_reset {D p0 p1 now s t : Int} (h : RopeAt D p0 p1 now s) (ht : now ≤ t) (hn : t ≤ 100000) (p2 : Bool) (l hi v : Int) :
    rope_Reset.f 100 900 D p0 p1 p2 l hi v t = some (if (!p2) = true then (p0, p1, p2, 10) else if v = 0 ∧ enough 100 l hi = true ∧ light 900 l hi = true then (-1, t, false, 0) else (p0, p1, p2, 51)) := by
  unfold rope_Reset.f ropeReset
  rw [at_valid h (by omega), at_time h ht hn]
  rfl

theorem ropeNotices_loop (L : List Int) (D : Int) (n : Nat) : ∀ (k : Nat) (now slack : Int) (a : Int) (p0 p1 : Int) (p2 : Bool), DiceOk L a → RopeAt D p0 p1 now slack → now + 11 * (n : Int) ≤ 10000 → 8 * n < k →
    law38_RopeNotices.l0 k now slack (n : Int) L a 100 900 D p0 p1 p2 = some true := by
  induction n with
  | zero =>
    intro k now slack a p0 p1 p2 hg hr hn hk
    obtain ⟨k, rfl⟩ : ∃ m, k = m + 1 := ⟨k - 1, by omega⟩
    simp only [law38_RopeNotices.l0]
    rw [if_neg (by omega), rope_awake]
    rfl
  | succ n ih =>
    intro k now slack a p0 p1 p2 hg hr hn hk
    obtain ⟨k, rfl⟩ : ∃ m, k = m + 1 + 1 + 1 + 1 + 1 + 1 + 1 := ⟨k - 7, by omega⟩
    obtain ⟨l, hi, b1, e1, g1⟩ := force_ok hg
    obtain ⟨dn, b2, e2, g2⟩ := one_ok g1 2 (by omega) (by omega)
    obtain ⟨v3, b3, e3, m3, g3⟩ := of_ok g2 [1, 0, 4, 11] (by simp) (by simp)
    obtain ⟨v4, b4, e4, g4⟩ := one_ok g3 6 (by omega) (by omega)
    obtain ⟨v5, b5, e5, m5, g5⟩ := of_ok g4 [0, 9] (by simp) (by simp)
    have hv : 0 ≤ v3 ∧ v3 ≤ 11 := by
      simp only [List.mem_cons, List.not_mem_nil, or_false] at m3
      omega
    have hv5 : v5 = 0 ∨ v5 = 9 := by
      simp only [List.mem_cons, List.not_mem_nil, or_false] at m5
      omega
    have h0 : 0 ≤ now := by
      obtain ⟨h1, h3, h4, h5, h6, h7⟩ := hr
      omega
    have hw : wrap64 (((n + 1 : Nat) : Int) - 1) = (n : Int) := by unfold wrap64; omega
    have hw2 : wrap64 (now + v3) = now + v3 := by unfold wrap64; omega
    have ht := at_tick (t := now + v3) hr (by omega) (by omega) p2 l hi dn
    have hz := at_reset (t := now + v3) hr (by omega) (by omega) p2 l hi v5
    simp only [law38_RopeNotices.l0]
    rw [if_pos (by omega), e1]; simp only [Option.bind_some]
    rw [e2]; simp only [Option.bind_some]
    rw [e3]; simp only [Option.bind_some]
    rw [hw2]
    obtain ⟨taut, htaut⟩ : ∃ taut : Bool, taut = (decide (l ≤ hi) && decide (100 ≤ l)) := ⟨_, rfl⟩
    obtain ⟨fine, hfine⟩ : ∃ fine : Bool, fine = (decide (l ≤ hi) && decide (hi ≤ 900)) := ⟨_, rfl⟩
    have hen : enough 100 l hi = taut := by rw [htaut]; unfold enough known; grind only
    have hli : light 900 l hi = fine := by rw [hfine]; unfold light known; grind only
    -- the way from the second reading of the force on
    have way : law38_RopeNotices.j2 (k + 1 + 1 + 1 + 1 + 1) (now + v3) slack ((n + 1 : Nat) : Int) dn taut fine L b3 100 900 D p0 p1 p2 l hi = some true := by
      obtain ⟨hD, r1, r2, r3, r4, r5⟩ := hr
      subst r5
      simp only [law38_RopeNotices.j2]
      rw [e4]; simp only [Option.bind_some]
      cases v4
      · -- a measurement
        rw [if_neg (by simp), ht]; simp only [Option.bind_some]
        rw [hli]
        have out : ∀ (s : Int), s = tickSince 100 p0 l hi (now + v3) → RopeAt D s (now + v3) (now + v3) s →
            law38_RopeNotices.j4 (k + 1 + 1 + 1 + 1) (now + v3) s ((n + 1 : Nat) : Int) dn fine 0 L b4 100 900 D p0 p1 p2 s (now + v3) (p2 || !fine || (dn && decide (0 ≤ s) && overB D (now + v3) s)) = some true := by
          intro s hs hat
          have done : ∀ f : Bool, f = false → law38_RopeNotices.j6 (k + 1 + 1) (now + v3) s ((n + 1 : Nat) : Int) f L b4 100 900 D s (now + v3) (p2 || !fine || (dn && decide (0 ≤ s) && overB D (now + v3) s)) = some true := by
            rintro f rfl
            simp only [law38_RopeNotices.j6]
            rw [if_neg (by simp), hw]
            exact ih (k + 1) _ _ _ _ _ _ g4 hat (by omega) (by omega)
          have five : ∀ f : Bool, f = (!fine || (dn && decide (0 ≤ s) && overB D (now + v3) s)) → law38_RopeNotices.j5 (k + 1 + 1 + 1) (now + v3) s ((n + 1 : Nat) : Int) 0 f L b4 100 900 D p0 p1 p2 s (now + v3) (p2 || !fine || (dn && decide (0 ≤ s) && overB D (now + v3) s)) = some true := by
            rintro f rfl
            simp only [law38_RopeNotices.j5, if_true]
            cases hp2 : p2
            · rw [if_neg (by simp)]
              have := done (((false || !fine || (dn && decide (0 ≤ s) && overB D (now + v3) s))) != (!fine || (dn && decide (0 ≤ s) && overB D (now + v3) s))) (by simp)
              rwa [hp2] at this
            · rw [if_pos rfl]
              have := done ((true || !fine || (dn && decide (0 ≤ s) && overB D (now + v3) s)) != true) (by simp)
              rwa [hp2] at this
          simp only [law38_RopeNotices.j4]
          cases hf : fine
          · rw [if_neg (by simp)]
            exact hf ▸ five true (by simp [hf])
          · rw [if_pos rfl]
            cases hd : dn
            · rw [if_neg (by simp)]
              have := five false (by simp [hf, hd])
              rwa [hf, hd] at this
            · rw [if_pos rfl]
              by_cases hs0 : s ≥ 0
              · rw [if_pos hs0]
                have := five (decide (wrap64 (now + v3 - s) > D)) (by simp [hf, hd, hs0, overB])
                rwa [hf, hd] at this
              · rw [if_neg hs0]
                have := five false (by simp only [hf, hd]; simp; omega)
                rwa [hf, hd] at this
        unfold tickSince at out ⊢
        rw [hen] at out ⊢
        cases taut
        · simp only [Bool.false_eq_true, if_false] at out ⊢
          by_cases hp : p0 < 0
          · simp only [hp, if_true] at out ⊢
            exact out _ rfl ⟨hD, by omega, by omega, by omega, by omega, rfl⟩
          · simp only [hp, if_false] at out ⊢
            exact out _ rfl ⟨hD, by omega, by omega, by omega, by omega, rfl⟩
        · simp only [if_true] at out ⊢
          exact out _ rfl ⟨hD, by omega, by omega, by omega, by omega, rfl⟩
      · -- a reset
        rw [if_pos rfl, e5]; simp only [Option.bind_some]
        rw [hz, hen, hli]; simp only [Option.bind_some]
        have stay : ∀ (e : Int) (f : Bool), ¬ e = 0 → f = false → law38_RopeNotices.j3 (k + 1 + 1 + 1 + 1) (now + v3) p0 ((n + 1 : Nat) : Int) e f L b5 100 900 D p0 p1 p2 = some true := by
          rintro e f he rfl
          simp only [law38_RopeNotices.j3]
          rw [if_neg (by simp), if_neg he, hw]
          exact ih _ _ _ _ _ _ _ g5 ⟨hD, by omega, by omega, by omega, by omega, rfl⟩ (by omega) (by omega)
        have free : ∀ f : Bool, f = false → law38_RopeNotices.j3 (k + 1 + 1 + 1 + 1) (now + v3) p0 ((n + 1 : Nat) : Int) 0 f L b5 100 900 D (-1) (now + v3) false = some true := by
          rintro f rfl
          simp only [law38_RopeNotices.j3, if_true]
          rw [if_neg (by simp), hw]
          exact ih _ _ _ _ _ _ _ g5 ⟨hD, by omega, by omega, by omega, by omega, rfl⟩ (by omega) (by omega)
        cases p2
        · simp only [Bool.not_false, if_true, Bool.false_eq_true, if_false]
          exact stay 10 _ (by omega) (by decide)
        · simp only [Bool.not_true, Bool.false_eq_true, if_false, if_true]
          by_cases hc : v5 = 0 ∧ taut = true ∧ fine = true
          · rw [if_pos hc]
            obtain ⟨h1, h2, h3⟩ := hc
            simp only [h1, h2, h3, if_true]
            exact free _ (by decide)
          · rw [if_neg hc]
            have h9 : taut = true → fine = true → (v5 == 0) = false := by
              intro q1 q2
              rcases hv5 with h | h
              · exact absurd ⟨h, q1, q2⟩ hc
              · rw [h]; decide
            cases ht2 : taut
            · rw [if_neg (by simp)]
              have := stay 51 (((51 : Int) == 0) != false) (by omega) (by decide)
              exact this
            · rw [if_pos rfl]
              cases hf2 : fine
              · rw [if_neg (by simp)]
                exact stay 51 (((51 : Int) == 0) != false) (by omega) (by decide)
              · rw [if_pos rfl]
                exact stay 51 (((51 : Int) == 0) != (v5 == 0)) (by omega) (by rw [h9 ht2 hf2]; decide)
    by_cases hlh : l ≤ hi
    · rw [if_pos hlh]
      simp only [law38_RopeNotices.j1]
      rw [if_pos hlh]
      simp only [hlh, decide_true, Bool.true_and] at htaut hfine
      rw [htaut, hfine] at way
      exact way
    · rw [if_neg hlh]
      simp only [law38_RopeNotices.j1]
      rw [if_neg hlh]
      simp only [hlh, decide_false, Bool.false_and] at htaut hfine
      rw [htaut, hfine] at way
      exact way

theorem RopeNotices : law38_RopeNotices.Pure := by
  intro l0 hm hs hw
  obtain ⟨k, hk⟩ : ∃ k : Nat, 300 ≤ k := ⟨300, Nat.le_refl _⟩
  refine ⟨k, ?_⟩
  unfold law38_RopeNotices.f made_Light.f made_Roll.f
  simp only [Option.bind_some]
  by_cases hl : (l0.length : Int) ≤ 400
  · rw [if_pos (by simpa using hl)]
    obtain ⟨v1, b1, e1, m1, g1⟩ := of_ok (DiceOk.zero hl) [3, 0, 10] (by simp) (by simp)
    obtain ⟨v2, b2, e2, h20, h21, g2⟩ := next_ok g1 25 (by omega) (by omega)
    rw [e1]; simp only [Option.bind_some]
    rw [e2]; simp only [Option.bind_some]
    obtain ⟨n, rfl⟩ := Int.eq_ofNat_of_zero_le h20
    simp only [List.mem_cons, List.not_mem_nil, or_false] at m1
    exact ropeNotices_loop l0 _ n _ _ _ _ _ _ _ g2 ⟨by omega, by omega, by omega, by omega, by omega, rfl⟩ (by omega) (by omega)
  · rw [if_neg (by simpa using hl), rope_awake]
    rfl
end Go.Proofs.Ytcebojamjllmjaa.Pure
