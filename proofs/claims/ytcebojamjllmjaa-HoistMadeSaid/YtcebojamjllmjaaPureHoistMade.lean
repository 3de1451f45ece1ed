/- The limits, distances and steps of made hoists: given code and document tell the same. For every input. -/
import Derived.Test.YtcebojamjllmjaaPureHoistMirror
import Derived.Test.YtcebojamjllmjaaHRef
import Derived.Test.YtcebojamjllmjaaPHoistx22
namespace Go.Proofs.Ytcebojamjllmjaa.Pure
open Go.RowKit Go.Proofs.Ytcebojamjllmjaa.PHoist Go.Proofs.Ytcebojamjllmjaa.PDiceH Go.Proofs.Ytcebojamjllmjaa.HMath Go.Proofs.Ytcebojamjllmjaa.HRef Go.Proofs.Ytcebojamjllmjaa.Hand Go.Proofs.Ytcebojamjllmjaa.HandH Go.Proofs.YtcebojamjllmjaaW.PrintWords Go.Proofs.YtcebojamjllmjaaW.PrintLast Go.Proofs.YtcebojamjllmjaaW.PrintMore
set_option linter.unusedVariables false

theorem wf_in {x : Int} (h1 : -4611686018427387904 ≤ x) (h2 : x ≤ 4611686018427387904) : (Lit.int .i64 x).wf = true := by
  have h : wrap64 x = x := wId h1 h2
  rw [← h]
  exact wrap64_wf x
theorem stop_both {d t b c m s : Int} (b1 : 1 ≤ b) (b2 : b ≤ 5000) : ∃ v, hoist_Stop.f d t b c m s = some v ∧ ref37_Stop.f d t b c m s = some v := by
  have e1 : wrap64 (2 * b) = 2 * b := wId (by omega) (by omega)
  unfold hoist_Stop.f ref37_Stop.f
  rw [if_neg (by omega), e1, if_neg (by omega)]
  exact ⟨_, rfl, rfl⟩

theorem hoistMade_j2 {L : List Int} {d t b c m p q r s u z : Int} (k : Nat) (hk : 17 ≤ k) (hd : (Lit.int .i64 d).wf = true) (hp : (Lit.int .i64 p).wf = true) (hg : DiceOk L z) : law37_HoistMade.j2 k L z d t b c m p q r s u = some true := by
  obtain ⟨k, rfl⟩ : ∃ j, k = j + 1 := ⟨k - 1, by omega⟩
  obtain ⟨x, z2, e1, _, g1⟩ := of_ok hg [1000, 1001] (by simp) (by simp)
  obtain ⟨y, z3, e2, _, g2⟩ := of_ok g1 [40000, 40001] (by simp) (by simp)
  simp only [law37_HoistMade.j2]
  rw [awake_ok]; simp only [Option.bind_some, if_true]
  rw [agree_ok _ _ _ _ _ _ _ _ _ hp (by omega)]; simp only [Option.bind_some, if_true]
  rw [e1]; simp only [Option.bind_some]
  rw [e2]; simp only [Option.bind_some]
  rw [agree_ok _ _ _ _ _ _ _ _ _ hd (by omega)]; rfl

theorem hoistMade_loop {L : List Int} {d t b c m : Int} (x1 : Int) (hm : HoistOk d t b c m) (n : Nat) : ∀ (k : Nat) (i z : Int), DiceOk L z → 0 ≤ i → 4 - i = (n : Int) → 40 + 3 * n ≤ k →
    law37_HoistMade.l0 k x1 i L z d t b c m = some true := by
  have hmm := hm
  obtain ⟨h1, h2, h3, h4, h5, h6, h7, h8, h9, h10⟩ := hmm
  have hd : (Lit.int .i64 d).wf = true := wf_in (by omega) (by omega)
  induction n with
  | zero =>
    intro k i z hg i0 hi hk
    obtain ⟨k, rfl⟩ : ∃ j, k = j + 1 := ⟨k - 1, by omega⟩
    simp only [law37_HoistMade.l0]
    rw [if_neg (by omega)]
    obtain ⟨v, z2, e1, v0, v1, g1⟩ := next_ok hg 5 (by omega) (by omega)
    rw [e1]; simp only [Option.bind_some]
    have t1 : wrap64 (t + 1) = t + 1 := wId (by omega) (by omega)
    obtain ⟨p, y0, f0, m0, q0⟩ := of_ok g1 [0, 4000001] (by simp) (by simp)
    obtain ⟨_, y1, f1, _, q1⟩ := of_ok g1 [0, 20001] (by simp) (by simp)
    obtain ⟨_, y2, f2, _, q2⟩ := of_ok g1 [0, 5001] (by simp) (by simp)
    obtain ⟨_, y3, f3, _, q3⟩ := of_ok g1 [-1, wrap64 (t + 1)] (by simp) (by simp)
    obtain ⟨_, y4, f4, _, q4⟩ := of_ok g1 [-1, 21] (by simp) (by simp)
    rw [f0, f1, f2, f3, f4]; simp only [Option.bind_some]
    have hp : (Lit.int .i64 p).wf = true := by
      simp only [List.mem_cons, List.not_mem_nil, or_false] at m0
      rcases m0 with rfl | rfl <;> decide +kernel
    (repeat' split) <;> exact hoistMade_j2 k (by omega) hd (by first | exact hp | exact hd) (by assumption)
  | succ n ih =>
    intro k i z hg i0 hi hk
    obtain ⟨k, rfl⟩ : ∃ j, k = j + 1 + 1 := ⟨k - 2, by omega⟩
    obtain ⟨y, e1, y0, y1⟩ := mod_ok x1 5000000 (by omega) (by omega)
    obtain ⟨room, z2, e2, _, g2⟩ := of_ok hg [0, 1, d, y, -7, x1] (by simp) (by simp)
    obtain ⟨s, e3, s0, s1⟩ := mod_ok x1 80001 (by omega) (by omega)
    obtain ⟨st, e4, e5⟩ := stop_both (d := d) (t := t) (c := c) (m := m) (s := wrap64 (s - 40000)) h5 h6
    simp only [law37_HoistMade.l0]
    rw [if_pos (by omega), e1]; simp only [Option.bind_some]
    rw [e2]; simp only [Option.bind_some]
    rw [e3]; simp only [Option.bind_some]
    rw [lim_val hm, ref_limit hm (by omega)]; simp only [Option.bind_some, if_true]
    rw [e4, e5]; simp only [Option.bind_some]
    have w1 : wrap64 (d + 2001) = d + 2001 := wId (by omega) (by omega)
    have w2 : wrap64 (i + 1) = i + 1 := wId (by omega) (by omega)
    obtain ⟨a, e6, _, _⟩ := mod_ok (wrap64 (x1 + wrap64 (i * 977))) (d + 2001) (by omega) (by omega)
    obtain ⟨f, z3, e7, g3⟩ := one_ok g2 3 (by omega) (by omega)
    obtain ⟨acc, z4, e8, _, g4⟩ := of_ok g3 [0, 500, -500, 1099511627776, -5000] (by simp) (by simp)
    simp only [law37_HoistMade.j1]
    rw [if_neg (by simp), w1, w2, e6]; simp only [Option.bind_some]
    rw [e7]; simp only [Option.bind_some]
    rw [e8]; simp only [Option.bind_some]
    rw [agree_ok _ _ _ _ _ _ _ _ _ hd (by omega)]; simp only [Option.bind_some, if_true]
    exact ih k (i + 1) z4 g4 (by omega) (by omega) (by omega)

theorem HoistMade : law37_HoistMade.Pure := by
  intro l0 a1 hm hs hw hw1
  obtain ⟨k, hk⟩ : ∃ k : Nat, 100 ≤ k := ⟨100, Nat.le_refl _⟩
  refine ⟨k, ?_⟩
  unfold law37_HoistMade.f made_Light.f made_Roll.f
  simp only [Option.bind_some]
  by_cases hl : (l0.length : Int) ≤ 400
  · rw [if_pos (by simpa using hl)]
    obtain ⟨d, t, b, m, z1, e1, g1, hmade⟩ := made1_ok (DiceOk.zero hl)
    have hq := hmade
    obtain ⟨q1, q2, q3, q4⟩ := hq
    rw [e1]; simp only [Option.bind_some]
    have w1 : wrap64 (Int.tdiv t 3) = t / 3 := by rw [tdiv_pos (by omega)]; exact wId (by omega) (by omega)
    rw [w1]
    obtain ⟨c, z2, e2, m2, g2⟩ := of_ok g1 [0, t, t / 3] (by simp) (by simp)
    rw [e2]; simp only [Option.bind_some]
    have hc : 0 ≤ c ∧ c ≤ t := by
      simp only [List.mem_cons, List.not_mem_nil, or_false] at m2
      omega
    exact hoistMade_loop a1 (hmade.hoist hc.1 hc.2) 4 k 0 z2 g2 (by omega) (by omega) (by omega)
  · rw [if_neg (by simpa using hl), awake_ok]
    rfl
end Go.Proofs.Ytcebojamjllmjaa.Pure
