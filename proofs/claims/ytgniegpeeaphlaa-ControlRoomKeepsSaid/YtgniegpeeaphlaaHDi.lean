/- The dice of the made inputs: each throw gives a number in its range, or one of the numbers named. No program in sight. -/
import Derived.Test.YtgniegpeeaphlaaPRx11
import Derived.Test.YtgniegpeeaphlaaPRx27
namespace Go.Proofs.Ytgniegpeeaphlaa.HandA
open Go.RowKit Go.Proofs.Ytgniegpeeaphlaa.PR Go.Proofs.YtgniegpeeaphlaaW.PrintWords Go.Proofs.YtgniegpeeaphlaaW.PrintLast
set_option linter.unusedVariables false

/-- The dice stand within their numbers. -/
def DiceOk (L : List Int) (a : Int) : Prop := 0 ≤ a ∧ a ≤ (L.length : Int) ∧ (L.length : Int) ≤ 400
theorem DiceOk.zero {L : List Int} (h : (L.length : Int) ≤ 400) : DiceOk L 0 := ⟨by omega, by omega, h⟩

theorem mod_ok (x n : Int) (hn : 1 ≤ n) (hn2 : n ≤ 4611686018427387904) : ∃ v, made_Mod.f x n = some v ∧ 0 ≤ v ∧ v < n := by
  have hlt : x.tmod n < n := Int.tmod_lt_of_pos x (by omega)
  have hgt : -n < x.tmod n := by
    have h := Int.tmod_lt_of_pos (-x) (show 0 < n by omega)
    rw [Int.neg_tmod] at h
    omega
  unfold made_Mod.f
  rw [if_neg (by omega), if_neg (by omega)]
  by_cases h : x.tmod n < 0
  · rw [if_pos h]
    have hw : wrap64 (x.tmod n + n) = x.tmod n + n := by unfold wrap64; omega
    exact ⟨_, rfl, by rw [hw]; omega, by rw [hw]; omega⟩
  · rw [if_neg h]
    exact ⟨_, rfl, by omega, hlt⟩

theorem next_ok {L : List Int} {a : Int} (h : DiceOk L a) (n : Int) (hn : 1 ≤ n) (hn2 : n ≤ 4611686018427387904) : ∃ v b, made_Dice_Next.f L a n = some (v, b) ∧ 0 ≤ v ∧ v < n ∧ DiceOk L b := by
  obtain ⟨h0, h1, h2⟩ := h
  have hw1 : wrap64 (a + 1) = a + 1 := by unfold wrap64; omega
  have hw2 : wrap64 (a + 1 - 1) = a := by unfold wrap64; omega
  unfold made_Dice_Next.f
  rw [hw1, hw2]
  by_cases h : a ≥ (L.length : Int)
  · rw [if_pos h]
    exact ⟨0, a, rfl, by omega, by omega, h0, h1, h2⟩
  · rw [if_neg h, if_pos h0, if_pos (by omega)]
    obtain ⟨v, hv, hv0, hv1⟩ := mod_ok (rd L a) n hn hn2
    rw [hv]
    exact ⟨v, a + 1, rfl, hv0, hv1, by omega, by omega, h2⟩

theorem rd_mem (xs : List Int) (i : Int) (h0 : 0 ≤ i) (h1 : i < (xs.length : Int)) : rd xs i ∈ xs := by
  unfold rd
  have h : i.toNat < xs.length := by omega
  rw [List.getD_eq_getElem?_getD, List.getElem?_eq_getElem h]
  exact List.getElem_mem h

theorem of_ok {L : List Int} {a : Int} (h : DiceOk L a) (xs : List Int) (hx : 1 ≤ xs.length) (hx2 : xs.length ≤ 1000) : ∃ v b, made_Dice_Of.f L a xs = some (v, b) ∧ v ∈ xs ∧ DiceOk L b := by
  obtain ⟨v, b, hv, hv0, hv1, hg⟩ := next_ok h (xs.length : Int) (by omega) (by omega)
  unfold made_Dice_Of.f
  rw [hv]
  simp only [Option.bind_some]
  rw [if_pos hv0, if_pos hv1]
  exact ⟨_, _, rfl, rd_mem xs v hv0 hv1, hg⟩

theorem one_ok {L : List Int} {a : Int} (h : DiceOk L a) (n : Int) (hn : 1 ≤ n) (hn2 : n ≤ 4611686018427387904) : ∃ v b, made_Dice_One.f L a n = some (v, b) ∧ DiceOk L b := by
  obtain ⟨v, b, hv, hv0, hv1, hg⟩ := next_ok h n hn hn2
  unfold made_Dice_One.f
  rw [hv]
  exact ⟨_, _, rfl, hg⟩
end Go.Proofs.Ytgniegpeeaphlaa.HandA
