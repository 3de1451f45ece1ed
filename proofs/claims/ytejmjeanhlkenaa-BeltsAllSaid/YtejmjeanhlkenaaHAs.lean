/- Has, walked; who throws onto a belt, by the list of those above. -/
import Derived.Test.YtejmjeanhlkenaaCO
namespace Go.Proofs.Ytejmjeanhlkenaa.HandA
open Go.RowKit Go.Proofs.Ytejmjeanhlkenaa.PB Go.Proofs.YtejmjeanhlkenaaW.PrintWords Go.Proofs.YtejmjeanhlkenaaW.PrintLast Go.Proofs.YtejmjeanhlkenaaW.PrintMore
set_option linter.unusedVariables false
set_option linter.unusedSimpArgs false
theorem mem_rd {xs : List Int} {i : Int} : i ∈ xs ↔ ∃ j : Nat, j < xs.length ∧ rd xs (j : Int) = i := by
  constructor
  · intro h
    obtain ⟨j, hj, e⟩ := List.getElem_of_mem h
    exact ⟨j, hj, by simp [rd, hj, e]⟩
  · rintro ⟨j, hj, rfl⟩
    simp [rd, hj]
theorem mem_above {l : List S31} (hs : Snd l) {k j : Nat} (hk : k < l.length) (hj : j < l.length) : (j : Int) ∈ aboveF l (k : Int) ↔ throwsF l (j : Int) (k : Int) = true := by
  unfold aboveF abN
  rw [if_pos ⟨hs, by omega, by omega⟩]
  simp only [List.mem_map, List.mem_filter, List.mem_range]
  constructor
  · rintro ⟨q, ⟨_, h⟩, e⟩
    obtain rfl : q = j := by omega
    exact h
  · intro h
    exact ⟨j, ⟨hj, h⟩, rfl⟩
theorem above_fit' {l : List S31} {i : Int} (hfit : Fit l.length) : Fit (aboveF l i).length := by
  unfold aboveF
  split
  · have := abN_len l i l.length
    unfold Fit at *
    omega
  · unfold Fit
    simp
set_option maxHeartbeats 4000000 in
set_option maxRecDepth 100000 in
theorem has_calls (xs : List Int) (A : Option Addr) (c : Nat) (i : Int) (w : World) (hl : Kd.C (Kd.int .i64) w A xs.length xs) (hc : xs.length ≤ c) (hfit : Fit xs.length) (r : Bool) (hr : r = true ↔ i ∈ xs) :
    Calls Try.prog 17 #[.slice A xs.length c, .int .i64 i] w fun e w' => e = .returned (.bool r) ∧ w' = w := by
  have HL := Aside0.mk hl
  have HR := Aside0.mk hr
  have hz : (xs.length : Int) ≤ 140737488351232 := by unfold Fit at hfit; omega
  clear hl hr hfit
  go_enter Try.func17, Try.ntmps17
  go_wp2_with fail
  go_loopg [5] xs.length (fun m v5 w' => ∃ n : Nat, v5 = .int .i64 n ∧ n + m = xs.length ∧ Aside0 (∀ j : Nat, j < n → rd xs (j : Int) ≠ i) ∧ w = w')
  case atStart => exact ⟨0, rfl, by omega, ⟨fun j hj => absurd hj (by omega)⟩, rfl⟩
  case round =>
    obtain ⟨n, rfl, hm, hA, rfl⟩ := hrel
    by_cases hn : n < xs.length
    · obtain ⟨m, rfl⟩ : ∃ q, gk = q + 1 := ⟨gk - 1, by omega⟩
      have hn2 : (n : Int) < xs.length := by omega
      obtain ⟨ad, e, d⟩ := Kd.at_int HL.out (n : Int) (by omega) hn2
      cases e
      simp only [Int.toNat_natCast] at d
      by_cases hx : rd xs (n : Int) = i
      · have hb : (rd xs (n : Int) == i) = true := by simp [hx]
        have hrt := Aside0.mk (HR.out.2 (mem_rd.2 ⟨n, hn, hx⟩))
        clear hx
        go_wp2_with fail
        go_ret
        exact ⟨by rw [hrt.out]; rfl, rfl⟩
      · have hb : (rd xs (n : Int) == i) = false := by simp [hx]
        have HX := Aside0.mk hx
        clear hx
        go_wp2_with fail
        go_roundg m
        case measure => omega
        case rel => exact ⟨n + 1, by go_num, by omega, ⟨fun j hj => by
          by_cases e : j < n
          · exact hA.out j e
          · obtain rfl : j = n := by omega
            exact HX.out⟩, rfl⟩
    · have hrf := Aside0.mk (show r = false by
        cases hq : r with
        | false => rfl
        | true =>
          obtain ⟨j, hj, e⟩ := mem_rd.1 (HR.out.1 hq)
          exact absurd e (hA.out j (by omega)))
      obtain rfl : n = xs.length := by omega
      go_wp2_with fail
      go_ret
      exact ⟨by rw [hrf.out]; rfl, rfl⟩
end Go.Proofs.Ytejmjeanhlkenaa.HandA
