/- A measurement of a rope that is told twice changes nothing the second time, and the time of slack goes on. For every list of numbers. -/
import Derived.Test.YtcebojamjllmjaaPRopex6
import Derived.Test.YtcebojamjllmjaaPureRopeMade
namespace Go.Proofs.Ytcebojamjllmjaa.Pure
open Go.RowKit Go.Proofs.Ytcebojamjllmjaa.PRope Go.Proofs.Ytcebojamjllmjaa.PDice Go.Proofs.Ytcebojamjllmjaa.Hand Go.Proofs.YtcebojamjllmjaaW.PrintWords Go.Proofs.YtcebojamjllmjaaW.PrintLast
set_option linter.unusedVariables false

/-- The state of a rope that can be in a row of measurements up to a time. -/
def RopeOk (D p0 p1 now : Int) : Prop := (0 ≤ D ∧ D ≤ 100) ∧ -1 ≤ p0 ∧ p0 ≤ p1 ∧ 0 ≤ p1 ∧ p1 ≤ now
theorem valid_ok {D p0 p1 now : Int} (h : RopeOk D p0 p1 now) (hn : now ≤ 100000) : ropeValid 100 900 D p0 p1 = true := by
  obtain ⟨⟨h1, h2⟩, h3, h4, h5, h6⟩ := h
  unfold ropeValid inB
  simp only [Bool.and_eq_true, decide_eq_true_eq]
  omega
theorem tick_val {D p0 p1 now t : Int} (h : RopeOk D p0 p1 now) (ht : now ≤ t) (hn : t ≤ 100000) (p2 : Bool) (l hi : Int) (dn : Bool) :
    rope_Tick.f 100 900 D p0 p1 p2 l hi dn t = some (tickSince 100 p0 l hi t, t, p2 || !light 900 l hi || (dn && decide (0 ≤ tickSince 100 p0 l hi t) && overB D t (tickSince 100 p0 l hi t)), 0) := by
  have hb : inB t p1 2147483648 = true := by
    obtain ⟨⟨h1, h2⟩, h3, h4, h5, h6⟩ := h
    unfold inB
    simp only [decide_eq_true_eq]
    omega
  unfold rope_Tick.f ropeTick
  rw [valid_ok h (by omega), hb]
  rfl
theorem since_ok {D p0 p1 now t l hi : Int} (h : RopeOk D p0 p1 now) (ht : now ≤ t) : RopeOk D (tickSince 100 p0 l hi t) t t ∧ tickSince 100 (tickSince 100 p0 l hi t) l hi t = tickSince 100 p0 l hi t ∧ (0 ≤ p0 → 0 ≤ tickSince 100 p0 l hi t → tickSince 100 p0 l hi t = p0) := by
  obtain ⟨h1, h3, h4, h5, h6⟩ := h
  unfold tickSince
  by_cases he : enough 100 l hi = true
  · simp only [he, if_true]
    exact ⟨⟨h1, by omega, by omega, by omega, by omega⟩, by trivial, by omega⟩
  · simp only [he, Bool.false_eq_true, if_false]
    by_cases hp : p0 < 0
    · simp only [hp, if_true]
      rw [if_neg (by omega)]
      exact ⟨⟨h1, by omega, by omega, by omega, by omega⟩, by trivial, by omega⟩
    · simp only [hp, if_false]
      exact ⟨⟨h1, by omega, by omega, by omega, by omega⟩, trivial, fun _ _ => trivial⟩
theorem slack_val {D p0 p1 t : Int} (h : RopeOk D p0 p1 p1) (ht : p1 ≤ t) (hn : t ≤ 100000) (p2 : Bool) : rope_Slack.f 100 900 D p0 p1 p2 t = some (if p0 < 0 then 0 else t - p0) := by
  unfold rope_Slack.f ropeSlack
  rw [valid_ok h (by omega)]
  obtain ⟨h1, h3, h4, h5, h6⟩ := h
  by_cases hp : p0 < 0
  · simp [hp]
  · rw [if_neg hp]
    simp only [Bool.not_true, Bool.false_eq_true, if_false]
    rw [if_neg hp, if_neg (by omega)]
    unfold wrap64
    congr 1
    omega

theorem ropeTwice_loop (L : List Int) (D : Int) (n : Nat) : ∀ (k : Nat) (now : Int) (a : Int) (p0 p1 : Int) (p2 : Bool), DiceOk L a → RopeOk D p0 p1 now → now + 11 * (n : Int) ≤ 10000 → 2 * n < k →
    law38_RopeTwice.l0 k now (n : Int) L a 100 900 D p0 p1 p2 = some true := by
  induction n with
  | zero =>
    intro k now a p0 p1 p2 hg hr hn hk
    obtain ⟨k, rfl⟩ : ∃ m, k = m + 1 := ⟨k - 1, by omega⟩
    simp only [law38_RopeTwice.l0]
    rw [if_neg (by omega), rope_awake]
    rfl
  | succ n ih =>
    intro k now a p0 p1 p2 hg hr hn hk
    obtain ⟨k, rfl⟩ : ∃ m, k = m + 1 + 1 := ⟨k - 2, by omega⟩
    obtain ⟨x, y, b1, e1, g1⟩ := force_ok hg
    obtain ⟨dn, b2, e2, g2⟩ := one_ok g1 2 (by omega) (by omega)
    obtain ⟨v3, b3, e3, m3, g3⟩ := of_ok g2 [1, 0, 4, 11] (by simp) (by simp)
    have hv : 0 ≤ v3 ∧ v3 ≤ 11 := by
      simp only [List.mem_cons, List.not_mem_nil, or_false] at m3
      omega
    have h0 : 0 ≤ now := by
      obtain ⟨h1, h3, h4, h5, h6⟩ := hr
      omega
    have hw : wrap64 (((n + 1 : Nat) : Int) - 1) = (n : Int) := by unfold wrap64; omega
    have hw2 : wrap64 (now + v3) = now + v3 := by unfold wrap64; omega
    have hw3 : wrap64 (now + v3 + 7) = now + v3 + 7 := by unfold wrap64; omega
    obtain ⟨r1, i1, i2⟩ := since_ok (l := x) (hi := y) (t := now + v3) hr (by omega)
    have rr := r1
    obtain ⟨_, hs1, hs2, _, _⟩ := rr
    have fin : ∀ f : Bool, f = false → law38_RopeTwice.j1 (k + 1) (now + v3) ((n + 1 : Nat) : Int) f L b3 100 900 D (tickSince 100 p0 x y (now + v3)) (now + v3) (p2 || !light 900 x y || (dn && decide (0 ≤ tickSince 100 p0 x y (now + v3)) && overB D (now + v3) (tickSince 100 p0 x y (now + v3)))) = some true := by
      rintro f rfl
      simp only [law38_RopeTwice.j1]
      rw [if_neg (by simp), hw]
      exact ih k _ _ _ _ _ g3 r1 (by omega) (by omega)
    simp only [law38_RopeTwice.l0]
    rw [if_pos (by omega), e1]; simp only [Option.bind_some]
    rw [e2]; simp only [Option.bind_some]
    rw [e3]; simp only [Option.bind_some]
    rw [hw2, tick_val hr (by omega) (by omega)]; simp only [Option.bind_some]
    rw [tick_val r1 (by omega) (by omega)]; simp only [Option.bind_some]
    have hbool : ∀ p q r : Bool, (p || q || r || q || r) = (p || q || r) := by decide
    simp only [i1, if_true, hbool]
    rw [if_neg (by simp)]
    rw [hw3, slack_val r1 (by omega) (by omega) _, slack_val r1 (by omega) (by omega) _]; simp only [Option.bind_some]
    generalize tickSince 100 p0 x y (now + v3) = s at *
    have hw4 : wrap64 (now + v3 - s + 7) = now + v3 + 7 - s := by unfold wrap64; omega
    have hne : p0 ≥ 0 → s ≥ 0 → (s != p0) = false := by
      intro q1 q2
      rw [bne_eq_false_iff_eq]
      exact i2 q1 q2
    by_cases hs : s < 0
    · simp only [hs, if_true]
      split
      · rw [if_neg (by omega)]
        exact fin _ rfl
      · exact fin _ rfl
    · simp only [hs, if_false]
      rw [if_neg (by omega), hw4, if_pos rfl]
      split
      · rw [if_pos (by omega)]
        exact fin _ (hne (by assumption) (by omega))
      · exact fin _ rfl

theorem RopeTwice : law38_RopeTwice.Pure := by
  intro l0 hm hs hw
  obtain ⟨k, hk⟩ : ∃ k : Nat, 200 ≤ k := ⟨200, Nat.le_refl _⟩
  refine ⟨k, ?_⟩
  unfold law38_RopeTwice.f made_Light.f made_Roll.f
  simp only [Option.bind_some]
  by_cases hl : (l0.length : Int) ≤ 400
  · rw [if_pos (by simpa using hl)]
    obtain ⟨v1, b1, e1, m1, g1⟩ := of_ok (DiceOk.zero hl) [3, 0, 10] (by simp) (by simp)
    obtain ⟨v2, b2, e2, h20, h21, g2⟩ := next_ok g1 20 (by omega) (by omega)
    rw [e1]; simp only [Option.bind_some]
    rw [e2]; simp only [Option.bind_some]
    obtain ⟨n, rfl⟩ := Int.eq_ofNat_of_zero_le h20
    simp only [List.mem_cons, List.not_mem_nil, or_false] at m1
    exact ropeTwice_loop l0 _ n _ _ _ _ _ _ g2 ⟨by omega, by omega, by omega, by omega, by omega⟩ (by omega) (by omega)
  · rw [if_neg (by simpa using hl), rope_awake]
    rfl
end Go.Proofs.Ytcebojamjllmjaa.Pure
