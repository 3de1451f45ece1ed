/- The dice of the made inputs: each throw gives a number in its range, or one of the numbers named. No program in sight. -/
import Derived.Test.YtejmjeanhlkenaaCP6
namespace Go.Proofs.Ytejmjeanhlkenaa.HandA
open Go.RowKit Go.Proofs.Ytejmjeanhlkenaa.PB Go.Proofs.YtejmjeanhlkenaaW.PrintWords Go.Proofs.YtejmjeanhlkenaaW.PrintLast
set_option linter.unusedVariables false

/-- The dice stand within their numbers. -/
def DiceOk (L : List Int) (a : Int) : Prop := 0 ≤ a ∧ a ≤ (L.length : Int) ∧ (L.length : Int) ≤ 400
theorem DiceOk.zero {L : List Int} (h : (L.length : Int) ≤ 400) : DiceOk L 0 := ⟨by omega, by omega, h⟩

theorem mod_ok (x n : Int) (hn : 1 ≤ n) (hn2 : n ≤ 4611686018427387904) : ∃ v, made_Mod.f x n = some v ∧ 0 ≤ v ∧ v < n := by
  have hlt : x.tmod n < n := Int.tmod_lt_of_pos x (by omega)
  have hgt : -n < x.tmod n := by
    have h := Int.tmod_lt_of_pos (-x) (show 0 < n by omega)
    rw [Int.neg_tmod] at h
    omega
  unfold made_Mod.f
  rw [if_neg (by omega), if_neg (by omega)]
  by_cases h : x.tmod n < 0
  · rw [if_pos h]
    have hw : wrap64 (x.tmod n + n) = x.tmod n + n := by unfold wrap64; omega
    exact ⟨_, rfl, by rw [hw]; omega, by rw [hw]; omega⟩
  · rw [if_neg h]
    exact ⟨_, rfl, by omega, hlt⟩

theorem next_ok {L : List Int} {a : Int} (h : DiceOk L a) (n : Int) (hn : 1 ≤ n) (hn2 : n ≤ 4611686018427387904) : ∃ v b, made_Dice_Next.f L a n = some (v, b) ∧ 0 ≤ v ∧ v < n ∧ DiceOk L b := by
  obtain ⟨h0, h1, h2⟩ := h
  have hw1 : wrap64 (a + 1) = a + 1 := by unfold wrap64; omega
  have hw2 : wrap64 (a + 1 - 1) = a := by unfold wrap64; omega
  unfold made_Dice_Next.f
  rw [hw1, hw2]
  by_cases h : a ≥ (L.length : Int)
  · rw [if_pos h]
    exact ⟨0, a, rfl, by omega, by omega, h0, h1, h2⟩
  · rw [if_neg h, if_pos h0, if_pos (by omega)]
    obtain ⟨v, hv, hv0, hv1⟩ := mod_ok (rd L a) n hn hn2
    rw [hv]
    exact ⟨v, a + 1, rfl, hv0, hv1, by omega, by omega, h2⟩

theorem rd_mem (xs : List Int) (i : Int) (h0 : 0 ≤ i) (h1 : i < (xs.length : Int)) : rd xs i ∈ xs := by
  unfold rd
  have h : i.toNat < xs.length := by omega
  rw [List.getD_eq_getElem?_getD, List.getElem?_eq_getElem h]
  exact List.getElem_mem h

theorem of_ok {L : List Int} {a : Int} (h : DiceOk L a) (xs : List Int) (hx : 1 ≤ xs.length) (hx2 : xs.length ≤ 1000) : ∃ v b, made_Dice_Of.f L a xs = some (v, b) ∧ v ∈ xs ∧ DiceOk L b := by
  obtain ⟨v, b, hv, hv0, hv1, hg⟩ := next_ok h (xs.length : Int) (by omega) (by omega)
  unfold made_Dice_Of.f
  rw [hv]
  simp only [Option.bind_some]
  rw [if_pos hv0, if_pos hv1]
  exact ⟨_, _, rfl, rd_mem xs v hv0 hv1, hg⟩

theorem one_ok {L : List Int} {a : Int} (h : DiceOk L a) (n : Int) (hn : 1 ≤ n) (hn2 : n ≤ 4611686018427387904) : ∃ v b, made_Dice_One.f L a n = some (v, b) ∧ DiceOk L b := by
  obtain ⟨v, b, hv, hv0, hv1, hg⟩ := next_ok h n hn hn2
  unfold made_Dice_One.f
  rw [hv]
  exact ⟨_, _, rfl, hg⟩
end Go.Proofs.Ytejmjeanhlkenaa.HandA
namespace Go.Proofs.Ytejmjeanhlkenaa.HandA
open Go.RowKit Go.Proofs.Ytejmjeanhlkenaa.PB Go.Proofs.YtejmjeanhlkenaaW.PrintWords Go.Proofs.YtejmjeanhlkenaaW.PrintLast
/-- The belts of the made inputs: one to six. -/
theorem some_loop {L : List Int} : ∀ (n : Nat) (l : List S31) (a : Int), DiceOk L a → l.length + n ≤ 6 → 1 ≤ l.length + n → ∃ l' b, law39_some.l0 (n + 1) l (n : Int) L a = some (l', b) ∧ 1 ≤ l'.length ∧ l'.length ≤ 6 ∧ DiceOk L b := by
  intro n
  induction n with
  | zero =>
    intro l a h h6 h1
    simp only [law39_some.l0]
    rw [if_neg (by omega)]
    obtain ⟨v, b, hv, hb⟩ := one_ok h 6 (by omega) (by omega)
    rw [hv]
    simp only [Option.bind_some]
    split
    · rw [if_pos (by omega)]
      exact ⟨_, _, rfl, by simp; omega, by simp; omega, hb⟩
    · exact ⟨_, _, rfl, by omega, by omega, hb⟩
  | succ n ih =>
    intro l a h h6 h1
    rw [law39_some.l0]
    rw [if_pos (by omega)]
    have hw : wrap64 ((l.length : Int) + 1) = l.length + 1 := by unfold wrap64; omega
    rw [hw]
    obtain ⟨v, b, hv, _, _, hb⟩ := next_ok h ((l.length : Int) + 1) (by omega) (by omega)
    rw [hv]
    simp only [Option.bind_some]
    obtain ⟨v2, b2, hv2, _, hb2⟩ := of_ok hb [5, 0, 20] (by simp) (by simp)
    rw [hv2]
    simp only [Option.bind_some]
    rw [if_pos (by omega)]
    have hw2 : wrap64 (((n + 1 : Nat) : Int) - 1) = n := by unfold wrap64; omega
    rw [hw2]
    exact ih _ _ hb2 (by simp; omega) (by simp; omega)
theorem some_ok {L : List Int} {a : Int} (h : DiceOk L a) : ∃ k l b, law39_some.f k L a = some (l, b) ∧ 1 ≤ l.length ∧ l.length ≤ 6 ∧ DiceOk L b := by
  obtain ⟨v, b, hv, h0, h1, hb⟩ := next_ok h 6 (by omega) (by omega)
  obtain ⟨n, hn⟩ : ∃ n : Nat, (n : Int) = 1 + v := ⟨(1 + v).toNat, by omega⟩
  obtain ⟨l, b2, hl, l1, l2, hb2⟩ := some_loop n [] b hb (by simp; omega) (by simp; omega)
  refine ⟨n + 1, l, b2, ?_, l1, l2, hb2⟩
  unfold law39_some.f
  rw [hv]
  simp only [Option.bind_some]
  have hw : wrap64 (1 + v) = n := by unfold wrap64; omega
  rw [hw]
  exact hl
end Go.Proofs.Ytejmjeanhlkenaa.HandA
